/-
  Part 44 of a proof (walks and plain facts).
-/
import Derived.Test.YtalmoejhjceflaaGreatR40
set_option linter.all false
set_option maxRecDepth 100000
set_option maxHeartbeats 64000000
open List renaming replicate → ae
namespace Go.Proofs.YtalmoejhjceflaaGreat
open Go.RowKit
variable {n:Nat} {s:AS} {b:Oper} {c:Array Oper} {e:List TV} {f:FuncId} {g:OH} {h:TV}
section
/-! Operation m as a call without arguments. -/
def qM (o:Oper):Oper:={o with op:= .call {callee:= .value (.func 0),args:= #[],argTypes:= #[]}}
def yv:Nat->List Oper->List Oper
 |_,[]=>[]
 |0,o::l=>qM o::l
 |m+1,o::l=>o::yv m l
def mX (b:Array Oper) (m:Nat):Array Oper:=⟨yv m b.toList⟩
theorem DT: ∀(m:Nat) (l:List Oper) (i:Nat),(yv m l)[i]?=if i=m then(l[i]?).map qM else l[i]?
 |m,[],i=>by simp[yv]
 |0,o::l,0=>rfl
 |0,o::l,i+1=>by simp[yv]
 |m+1,o::l,0=>by simp[yv]
 |m+1,o::l,i+1=>by simp[yv,DT m l i]
theorem DU: ∀(m:Nat) (l:List Oper),(yv m l).length=l.length
 |m,[]=>by simp[yv]
 |0,o::l=>rfl
 |m+1,o::l=>by simp[yv,DU m l]
section
variable {P:Program} {ops:Array Oper} {m:Nat} {s:AS}
theorem kK (i:Nat):(mX ops m)[i]?=if i=m then(ops[i]?).map qM else ops[i]?:=by
 have:=DT m ops.toList i;simpa[mX] using this
theorem OX:(mX ops m).size=ops.size:=by simp[mX,DU]
theorem Ta (g:Nat):((mX ops m)[g]?).bind (·.dst)=(ops[g]?).bind (·.dst):=by
 rw[kK];split
 ·cases ops[g]?<;>rfl
 rfl
theorem C1 {c:List (df P)} {e:List Nat} {i:Nat}:aU P c e (mX ops m) i b s=aU P c e ops i b s:=by
 unfold aU;simp only[Ta]
theorem zV {b:Array Bool} {i:Nat}:i∈Region.ready .any (mX ops m) b↔i∈Region.ready .any ops b:=by
 constructor
 ·intro h;obtain⟨f,o,c,g⟩:=mem_ready.1 h;rw[kK]at c;split at c
  ·obtain⟨l,j,rfl⟩:=aak.1 c;exact mem_ready.2 ⟨f,l,j,g⟩
  exact mem_ready.2 ⟨f,o,c,g⟩
 intro h;obtain⟨f,o,c,g⟩:=mem_ready.1 h;by_cases e:i=m
 ·exact mem_ready.2 ⟨f,qM o,by rw[kK,if_pos e,c];rfl,g⟩
 exact mem_ready.2 ⟨f,o,by rw[kK,if_neg e];exact c,g⟩
theorem Nr {Qn:Act->World->Prop} {Wp:Nat->(Act->World->Prop)->Act->World->Prop}: ∀f,qn (mX ops m) Qn Wp f=qn ops Qn Wp f:=by
 have c: ∀b,Region.ready .any (mX ops m) b=[]↔Region.ready .any ops b=[]:=fun b=>by
  simp only[ac6,zV]
 intro f
 induction f with
 |zero=>funext l a w;simp only[qn,c]
 |succ f e=>funext l a w;simp only[qn,c,zV,e]
/-! What some slots and families hold. -/
def r7 (rd b:List Nat) (s c:AS):Prop:=(∀k∈rd,c.tmps[k]?=s.tmps[k]?)/\ ∀x∈b,c.H x=s.H x
def IZ (rd b:List Nat) (o:Oper):Bool:=Zn o.op&&(rd.all fun k=>o.dst !=some k)&&b.all fun k=>o.dst !=some k
variable {items:List (df P)} {ow:List Nat} {rd fas:List Nat} {sep:List (Nat×Nat×Nat)}
theorem K1 {i:Nat} {v:AS} (h:IZ rd fas b=true) (u:aU P items ow ops i b s=some v):r7 rd fas s v:=by
 unfold IZ at h;simp only[aaO,aat,bne_iff_ne,ne_eq]at h;obtain⟨⟨w,p⟩,y⟩:=h;rw[bN]at u;obtain⟨out,c,f⟩:=aaG.1 u;cases out with
 |val t=>
  simp only[ca]at f;injection f with f
  subst f;exact⟨fun k n=>ki s _ t k fun e j g=>p k n (by rw[j,g]),fun x _=>by rw[fE]⟩
 |new t A l=>
  simp only[ca]at f;split at f
  ·rename_i d r;split at f
   ·injection f with f
    subst f;exact⟨fun k n=>ki ⟨s.tmps,_⟩ _ t k fun e j g=>p k n (by rw[r,j,g]),fun x z=>by
     rw[fE];exact aG fun e=>y x z (by rw[r,e])⟩
   cases f
  cases f
 |wr q=>
  exfalso;unfold cL at c;split at c
  ·unfold jc at c;split at c
   ·obtain⟨_,_,h⟩:=aak.1 c;cases h
   split at c
   ·obtain⟨_,_,h⟩:=aak.1 c;cases h
   rw[wU w]at c;simp only at c;split at c
   ·cases c
   unfold LC at c;split at c<;>cases c
  ·cases c
  cases c
theorem oM (D:Kg P sep ops) (A:bY sep ops=true) {L:AS} (G:Io sep L) {p:Nat->Bool} (E:Ax ops p) (h:dy P items ow ops (l5 ops.size p) L=some s): ∀(N b:Nat) (c:Nat->Bool),b+N=ops.size->(∀j,j<b->p j=true->c j=true)->Ax ops c->(∀j,c j=true->p j=true)->
  (∀(i:Nat) o,ops[i]?=some o->p i=true->c i=false->IZ rd fas o=true)-> ∃V,dy P items ow ops (l5 ops.size c) L=some V/\r7 rd fas V s
 |0,b,c,X,q,_,z,_=>by
  refine⟨s,?_,fun _ _=>rfl,fun _ _=>rfl⟩;have e:l5 ops.size c=l5 ops.size p:=adv fun j n=>by
   have n:=aa9.1 n;cases H:p j with
   |true=>exact q j (by omega) H
   |false=>
    cases l:c j with
    |false=>rfl
    |true=>rw[z j l]at H;cases H
  rw[e];exact h
 |N+1,b,c,X,q,B,z,C=>by
  have t:b<ops.size:=by omega
  have R:ops[b]?=some ops[b]:=by simp[t]
  by_cases w:p b=true/\c b=false
  ·obtain⟨K,U⟩:=w;have F:Ax ops (dJ c b):=AT B fun o v e O r=>q _ ((lG A).1 b o v e O r) (E b o v K e O r)
   obtain⟨s2,W,M⟩:=oM D A G E h N (b+1) (dJ c b) (by omega) (fun j n g=>by
    by_cases f:j=b
    ·simp[dJ,f]
    ·simp[dJ,q j (by omega) g]) F (fun j n=>by
    by_cases f:j=b
    ·rw[f];exact K
    ·have u:(j==b)=false:=by simpa using f
     exact z j (by simpa[dJ,u] using n)) (fun i o Y I y=>by
    have:c i=false:=by
     cases h:c i with
     |false=>rfl
     |true=>simp[dJ,h]at y
    exact C i o Y I this)
   obtain⟨sm,Z,J⟩:=xN D A B t U G W;unfold dX at J;rw[R]at J;have T:=K1 (C b _ R K U) J;exact⟨sm,Z,fun k Q=>(M.1 k Q).trans (T.1 k Q),fun x S=>(M.2 x S).trans (T.2 x S)⟩
  refine oM D A G E h N (b+1) c (by omega) (fun j n g=>?_) B z C;by_cases f:j=b
  ·subst f;cases l:c j with
   |true=>rfl
   |false=>exact absurd ⟨g,l⟩ w
  exact q j (by omega) g
theorem NW {e:List (df P)} {i d:Nat} {ev:Operand->Option TV} {op:Op} (h:items.find? (·.i==i)=e.find? (·.i==i)):cn P items ow i d ev g op=cn P e ow i d ev g op:=by
 cases op with
 |call c=>
  obtain⟨callee,args,j⟩:=c;cases callee with
  |value f=>cases f<;>simp only[cn,h]
  |invoke r m=>simp only[cn]
  |builtin b=>cases b<;>simp only[cn]
 |_=>simp only[cn]
theorem C0 {c:List (df P)} {i:Nat} (h:items.find? (·.i==i)=c.find? (·.i==i)):aU P items ow ops i b s=aU P c ow ops i b s:=by
 unfold aU d6;simp only[NW h]
def BI (ops:Array Oper) (m:Nat):List Nat:=match ops[m]? with
 |some o=>o.op.operands.toList.filterMap fun| .tmp k=>some k|_=>none
 |none=>[]
def OZ (ops:Array Oper) (m z:Nat) (fas:List Nat):Bool:=decide (m<z)&&(bY [] (jO (mX ops m) z)&&((match ops[m]? with|some o=>o.guard.isNone&&o.dst.isSome|none=>false)&&
 ((z==ops.size||(z+1==ops.size&&(List.range z).all fun i=>((pj (jO (mX ops m) z).toList []).getD z 0).testBit i))&&
 (List.range z).all fun i=>i==m||(if i<m then((pj (jO (mX ops m) z).toList []).getD m 0).testBit i else((pj (jO (mX ops m) z).toList []).getD i 0).testBit m)||(match ops[i]? with|some o=>IZ (BI ops m) fas o|none=>true))))
end
section
variable {P:Program} {a:Act} {w0 w:World} {O X Y:Nat->Prop} {ks:List Nat}
theorem Dm {R1 R2:AS->Act->World->Prop} (M1:yD ks R1) (b5:P.follows .mixedOrders=true) (b:List (ao P)) (t:List Nat) (m z:Nat) (D:List Nat) (x:PV) {id:Nat} (hk:cW ks c=true) (hE:OZ c m z D=true) {s1 N s3:AS} (h1:ib P (b.map ao.a) t c ((c.toList.take m).zipIdx 0) s=some s1) (bt: ∀s',r7 (BI c m) D s1 s'->kV s'->vp P c m (R1 s') (R1 (s'.put (cwD c m) (.one (.p x))))) (h2:ib P (b.map ao.a) t c (((c.toList.take z).drop (m+1)).zipIdx (m+1)) (s1.put (cwD c m) (.one (.p x)))=some N) (S:z<c.size->vp P c z (R1 N) (R2 s3)) (bh:z=c.size-> ∀a w,R1 N a w->R2 s3 a w) {Q:Exit->Act->World->Prop} (E:R1 s a w) (hQ: ∀a' L,R2 s3 a' L->Q .normal a' L):(Code.region id c true).wp P Q a w:=by
 simp only[OZ,aaO,decide_eq_true_eq,aat,aa9]at hE;obtain⟨cy,hd,al,A,bw⟩:=hE;rw[acm,beq_iff_eq,aaO,beq_iff_eq,aat]at A;have cC:z<=c.size/\c.size<=z+1:=by rcases A with h|h<;>omega
 have ad:m<c.size:=by omega
 obtain⟨o,M⟩: ∃o,c[m]?=some o:=⟨c[m],by simp[ad]⟩;rw[M]at al;simp only[aaO]at al;obtain⟨hg,V⟩:=al;obtain⟨d,V⟩:=Option.isSome_iff_exists.1 V;have hg:o.guard=none:=by simpa using hg
 have b0:cwD c m=some d:=by unfold cwD;rw[M];exact V
 rw[b0]at bt h2;have b4:(c.toList.take m).length=m:=by rw[acN];simp;omega
 let y:df P:=⟨m,0,[],⟨[],.one (.p x)⟩⟩
 have ah: ∀i,i≠m->(y::b.map ao.a).find? (·.i==i)=(b.map ao.a).find? (·.i==i):=fun i R=>by
  have:(y.i==i)=false:=by simpa[y] using acE R
  rw[List.find?_cons,this]
 have u: ∀i,i≠m->i≠z->(jO (mX c m) z)[i]?=c[i]?:=fun i h1 h2=>by rw[jD,if_neg h2,kK,if_neg h1]
 have G: ∀(i:Nat) (o:Oper) (s:AS),i≠m->aU P (y::b.map ao.a) t (jO (mX c m) z) i o s=aU P (b.map ao.a) t c i o s:=fun i o s R=>by
  rw[np,C1,C0 (ah i R)]
 have key: ∀(l:List Nat) (s:AS),(∀i∈l,i≠m/\i≠z)->dy P (y::b.map ao.a) t (jO (mX c m) z) l s=dy P (b.map ao.a) t c l s:=fun l=>by
  induction l with
  |nil=>intros;rfl
  |cons i l ih=>
   intro s hl;have R:=hl i (by simp);have e:dX P (y::b.map ao.a) t (jO (mX c m) z) i s=dX P (b.map ao.a) t c i s:=by
    unfold dX;rw[u i R.1 R.2];simp only[G i _ _ R.1]
   simp only[dy,e];cases dX P (b.map ao.a) t c i s with
   |none=>rfl
   |some N=>exact ih N fun j f=>hl j (by simp[f])
 have ae:dy P (y::b.map ao.a) t (jO (mX c m) z) (List.range m) s=some s1:=by
  have:=gS (P:=P) (items:=b.map ao.a) (ow:=t) (c.toList.take m) 0 s (fun j o f=>by
   rw[acg]at f;split at f
   ·simpa using f
   cases f)
  rw[h1,b4,<- aaX]at this;rw[this];exact key _ _ fun i R=>by have:=aa9.1 R;omega
 have bx:dy P (y::b.map ao.a) t (jO (mX c m) z) (List.range' (m+1) (z-m-1)) (s1.put (some d) (.one (.p x)))=some N:=by
  have:=gS (P:=P) (items:=b.map ao.a) (ow:=t) (ops:=c) ((c.toList.take z).drop (m+1)) (m+1) (s1.put (some d) (.one (.p x))) (fun j o f=>by
   rw[abR,acg]at f;split at f
   ·simpa using f
   cases f)
  rw[h2,List.length_drop,acN,adg,show min z c.size-(m+1)=z-m-1 by omega]at this;rw[this];exact key _ _ fun i R=>by have:=List.mem_range'_1.1 R;omega
 have bd:(jO (mX c m) z)[m]?=some (qM o):=by rw[jD,if_neg (by omega),kK,if_pos rfl,M];rfl
 have ac: ∀s:AS,aU P (y::b.map ao.a) t (jO (mX c m) z) m (qM o) s=some (s.put (some d) (.one (.p x))):=fun s=>by
  unfold aU;rw[show(qM o).guard=none from hg];show d6 P _ t m (qM o) s=_;have b1:(y::b.map ao.a).find? (·.i==m)=some y:=by
   rw[List.find?_cons,show(y.i==m)=true by simp[y]]
  have hA:cn P (y::b.map ao.a) t m d s.ev s.H (qM o).op=some (.one (.p x),[]):=by
   simp only[qM,cn,b1,fA];simp[y,CallRes.plain,renTV,cb,noRefTV,fm]
  unfold d6;rw[show(qM o).dst=some d from V];simp only[show oQ (qM o).op=false from rfl,show yf (qM o).op=false from rfl,show fP P s.ev s.H (qM o).op=none from rfl,hA,aaZ,if_false]
 have g:(jO (mX c m) z).size=c.size:=by rw[iV,OX]
 have a5:dy P (y::b.map ao.a) t (jO (mX c m) z) (List.range z) s=some N:=by
  have cl:List.range z=List.range m++m::List.range' (m+1) (z-m-1):=by
   have h1:=abr (s:=0) (m:=m) (n:=z-m-1+1);rw[show m+(z-m-1+1)=z by omega,aa6,abb]at h1;rw[aaX,aaX];exact h1.symm
  rw[cl,je,ae];simp only[acd,dy];unfold dX;rw[bd];simp only;rw[ac];exact bx
 have U: ∃sF,dy P (y::b.map ao.a) t (jO (mX c m) z) (List.range (jO (mX c m) z).size) s=some sF/\(z=c.size->sF=N):=by
  rw[g];rcases A with e|⟨e,_⟩
  ·exact⟨N,by rw[<- e];exact a5,fun _=>rfl⟩
  obtain⟨ol,aa,ap,_⟩:=S (by omega);have af:(jO (mX c m) z)[z]?=some (wc ol):=by rw[jD,if_pos rfl,kK,if_neg (by omega),aa];rfl
  have hl:aU P (y::b.map ao.a) t (jO (mX c m) z) z (wc ol) N=some (N.put ol.dst (.raw (.bool false))):=by
   unfold aU;rw[show(wc ol).guard=none from ap];rfl
  refine⟨N.put ol.dst (.raw (.bool false)),?_,fun h=>by omega⟩;rw[<- e,abg,je,a5];simp only[acd,dy];unfold dX;rw[af];simp only;rw[hl];rfl
 obtain⟨sF,U,cm⟩:=U;refine(wpIn_wide (n:=0)).1 (wpIn_region_any (F:=FW none) b5 ?_);have ci:R1 s a {w with drawn:=w.drawn+1}:=by
  obtain⟨wa,Oa,Xa,⟨q1,q2,ρ,bl,a4⟩,ka⟩:=M1 s a w E;have e:Ext w {w with drawn:=w.drawn+1}:=⟨rfl,rfl,rfl,aar _,fun _ _=>rfl⟩;have a4:aV Xa ρ s a w:=a4;exact ka _ _ _ (fun _ _=>rfl) ⟨q1,q2,ρ,bl.grow e,a4.grow e⟩
 have a1:kV s:=by obtain⟨wa,Oa,Xa,r,_⟩:=M1 s a w E;exact eP r
 have hS:Kg P [] (jO (mX c m) z):=lF hd (by simp);have a2:Io [] s:=⟨a1,fun x hx=>by simp at hx⟩;rw[<- uz,<- Nr (m:=m),<- C6 (m:=z)];refine mc (sep:=[]) hS hd (fun p s a w=>if(decide (z<c.size)&&p z)=true then R2 s3 a w else R1 s a w) a2 U (fun p a w a9 E=>?_) (fun p i o' s' ct a w K q T bR hs E hK=>?_) c.size (Array.replicate c.size false) s a _ (by simp[g]) ?_ ?_ ?_ ?_
 ·by_cases J:z<c.size
  ·rw[if_pos (by rw[a9 z (by rw[g];exact J)];simpa using J)]at E;exact hQ a w E
  rw[if_neg (by simp[J]),cm (by omega)]at E;exact hQ a w (bh (by omega) a w E)
 ·obtain⟨hc,ba,C⟩:=bR;have a0:i<c.size:=by have:=(aaD.1 q).1;rwa[g]at this
  by_cases bm:i=z
  ·subst bm;have ab:dJ p i i=true:=by simp[dJ]
   obtain⟨ol,aa,ap,br⟩:=S a0;have af:(jO (mX c m) i)[i]?=some (wc ol):=by rw[jD,if_pos rfl,kK,if_neg (by omega),aa];rfl
   rw[af]at q;injection q with q
   subst q;have cp:l5 (jO (mX c m) i).size p=List.range i:=xM (by rw[g];omega) (fun j f=>by
    have:=mn ba (i+1) i (by omega) (by rw[g];exact a0) ab ((A.resolve_left (by omega)).2 j (aa9.2 f));have B:(j==i)=false:=by simp;omega
    simpa[dJ,B] using this) (fun j b2 cx=>by
    rw[g]at b2;rw[show j=i by omega];exact T)
   rw[cp,a5]at C;injection C with C
   subst C;rw[T,Bool.and_false,if_neg (by decide)]at E;unfold wpOpIn;rw[aa];simp only;rw[if_pos (by simp[Region.wanted,ap])];exact br a w K Q E fun v L h2=>hK v L (by rw[if_pos (by rw[ab];simpa using a0)];exact h2)
  have I:(decide (z<c.size)&&p z)=false:=by
   by_cases J:z<c.size
   ·cases I:p z with
    |false=>simp
    |true=>
     have:=mn hc (z+1) z (by omega) (by rw[g];exact J) I ((A.resolve_left (by omega)).2 i (aa9.2 (by omega)));rw[T]at this;cases this
   simp[J]
  have cs:(z==i)=false:=by simp;omega
  have cg:(decide (z<c.size)&&dJ p i z)=false:=by simpa only[dJ,cs,ad9,ad8] using I
  rw[I,if_neg (by decide)]at E;have a8: ∀v L,R1 ct (a.put o'.dst v) L->K (a.put o'.dst v) L:=fun v L h=>hK v L (by rw[cg,if_neg (by decide)];exact h)
  by_cases av:i=m
  ·subst av;rw[bd]at q;injection q with q
   subst q;rw[ac]at hs;injection hs with hs
   subst hs;have ag:=(lG hd).1;have bb:Ax (jO (mX c i) z) (fun j=>decide (j<i)):=fun j o M f e he hb=>by
    have:=ag j o M e he hb;simp only[decide_eq_true_eq]at f⊢;omega
   have bc:Ax (jO (mX c i) z) (fun j=>p j&&decide (j<i)):=fun j o M f e he hb=>by
    simp only[aaO]at f⊢;exact⟨hc j o M f.1 e he hb,bb j o M f.2 e he hb⟩
   have cc:dy P (y::b.map ao.a) t (jO (mX c i) z) (l5 (jO (mX c i) z).size fun j=>decide (j<i)) s=some s1:=by
    rw[xM (m:=i) (by rw[g];omega) (fun j f=>by simpa using f) (fun j _ f=>by simpa using f)];exact ae
   obtain⟨sc,g1,g2⟩:=oM (rd:=BI c i) (fas:=D) hS hd a2 hc C (jO (mX c i) z).size 0 (fun j=>p j&&decide (j<i)) (by omega) (fun j f=>by omega) bc (fun j f=>by simp only[aaO]at f;exact f.1) (fun j o' f hp hn=>by
    have B:j≠i:=fun e=>by rw[e,T]at hp;cases hp
    have bp:=(aaD.1 f).1;rw[g]at bp;have b3:j≠z:=fun e=>by rw[<- e]at I;simp[bp,hp]at I
    rw[u j B b3]at f;have k2:=(aaD.1 f).1;have W: ¬j<i:=fun h=>by simp[hp,h]at hn
    have:=bw j (by omega);rw[if_neg W,f]at this;simp only[acm,beq_iff_eq,B,false_or]at this;rcases this with this|this
    ·have:=mn hc (j+1) j (by omega) (by rw[g];exact k2) hp this;rw[T]at this;cases this
    exact this)
   obtain⟨cD,a6,a7⟩:=oM (rd:=BI c i) (fas:=D) hS hd a2 bb cc (jO (mX c i) z).size 0 (fun j=>p j&&decide (j<i)) (by omega) (fun j f=>by omega) bc (fun j f=>by simp only[aaO]at f;exact f.2) (fun j o' f hp hn=>by
    have W:j<i:=by simpa using hp
    have B:j≠i:=by omega
    rw[u j B (by omega)]at f;have ch:p j=false:=by simpa[W] using hn
    have:=bw j (by omega);rw[if_pos W,f]at this;simp only[acm,beq_iff_eq,B,false_or]at this;rcases this with this|this
    ·have:=mn ba (i+1) i (by omega) (by rw[g];exact ad) (by simp[dJ]) this;have bn:(j==i)=false:=by simpa using B
     simp[dJ,ch,bn]at this
    exact this)
   rw[g1]at a6;injection a6 with e
   subst e;have a3:r7 (BI c i) D s1 s':=⟨fun k hk=>(g2.1 k hk).trans (a7.1 k hk).symm,fun x hx=>(g2.2 x hx).trans (a7.2 x hx).symm⟩;have bq:kV s':=by obtain⟨wa,Oa,Xa,r,_⟩:=M1 s' a w E;exact eP r
   obtain⟨o2,Z,cv,cr⟩:=bt s' a3 bq;rw[M]at Z;injection Z with Z
   subst Z;unfold wpOpIn;rw[M];simp only;rw[if_pos (by simp[Region.wanted,hg])];exact cr a w K Q E fun v L h2=>a8 v L h2
  rw[u i av bm]at q;rw[G i _ _ av]at hs;obtain⟨wa,Oa,Xa,ra,ka⟩:=M1 _ _ _ E;exact uV q hs ra fun v L r'=>a8 v L (ka _ _ _ (lJ hk q v) r')
 ·intro j o M hp;have f:j<c.size:=by have:=(aaD.1 M).1;rwa[g]at this
  simp[f]at hp
 ·exact aap (List.length_filter_le _ _) (by simp[g])
 ·have:l5 (jO (mX c m) z).size (fun j=>(Array.replicate c.size false).getD j true)=[]:=by
   unfold l5;rw[adO];intro j f;have:=aa9.1 f;rw[g]at this;simp[this]
  rw[this];rfl
 rw[if_neg (by by_cases h:z<c.size<;>simp[h])];exact ci
def MM (c:Nat) (F:List OObj) (t u:TV):Prop:=(sY t=true/\u=t)\/(∃r b len o,t= .one (.sl c r b len)/\F[r]?=some o/\dT o/\u= .one (.p (.sl (((o.elems.take (b+len)).drop b).map (List.map uq)))))\/
 ∃r i j o e,t= .one (.ptr c r i j)/\F[r]?=some o/\o.elems[i]?=some e/\(∀x∈e,isPure x=true)/\u= .one (.p (.ptr ((e.drop j).map uq)))
def At (b:Nat) (F:List OObj):List TV->List TV->Prop
 |[],[]=>True
 |t::c,u::e=>MM b F t u/\At b F c e
 |_,_=>False
theorem y5 {f:Nat} {F:List OObj}: ∀{c e:List TV},At f F c e->e.length=c.length/\ ∀(j:Nat) u,e[j]?=some u-> ∃t,c[j]?=some t/\MM f F t u
 |[],[],_=>⟨rfl,fun j u h=>by simp at h⟩
 |t::c,u::e,⟨m,n⟩=>by
  obtain⟨g,l⟩:=y5 n;refine⟨by simp[g],fun j v b=>?_⟩
  match j,b with
  |0,b=>exact⟨t,rfl,by simp at b;subst b;exact m⟩
  |j+1,b=>exact l j v (by simpa using b)
 |[],_::_,h=>h.elim
 |_::_,[],h=>h.elim
variable {ρ:Rho} {s:AS}
theorem FO {Y:Nat->Prop} (z: ∀(x r:Nat) (o:OObj),(g x)[r]?=some o->objRel ρ g Y w x r o) {u:TV} (f:MM n (g n) h u) {v:Value} (F:h.rel ρ g Y w v):u.rel (fun _ _=>none) (fun _=>[]) (fun _=>False) w v:=by
 have l: ∀x u,isPure x=true->AV.rel ρ g Y w x u->bM (fun _=>False) w (uq x) u:=fun x u E f=>by
  cases x<;>first|exact bM.weaken (fun _ _ f=>f.elim) f|cases E
 rcases f with⟨E,rfl⟩|⟨r,N,len,o,rfl,y,p,rfl⟩|⟨r,i,j,o,e,rfl,y,D,p,rfl⟩
 ·exact nO E F
 ·exact kN (z n r o y) y (fun e D x m u M=>l x u (p e D x m) M) (fun _ _ _ f=>f) F
 obtain⟨T,b,c,C,L,S,rfl⟩:=F;rw[y]at C;injection C with C
 subst C;obtain⟨Z,q2,J⟩:=z n r o y;rw[L]at J;obtain⟨cells,I,U,V,W,Q⟩:=J;have q: ∀(k:Nat) x,((e.drop j).map uq)[k]?=some x-> ∃u:Value,cells[i*o.es+(j+k)]?=some u/\bM (fun _=>False) w x u:=fun k x m=>by
  rw[aam,abR]at m;obtain⟨G,A,rfl⟩:=aak.1 m;obtain⟨u,B,K,R⟩:=Q i e (j+k) G D A;exact⟨u,B,l G u (p G (aai A)) R⟩
 refine bM.ptr b (i*o.es+j) _ (fun k=>(cells[i*o.es+(j+k)]?).getD undef) (fun f=>f) (aaD.1 I).1 (fun k x m=>?_) (fun k x m=>?_)
 ·obtain⟨u,B,_⟩:=q k x m;rw[cell_of_row _ b _ cells o.ty (0,0) I,show i*o.es+j+k=i*o.es+(j+k) by omega,B];rfl
 obtain⟨u,B,K⟩:=q k x m;simp only[B,abD];exact K
theorem PM (ae:dx w0 O X s a w) (p:pu b s=some (f,e)) {args:List TV} {res:CallRes} (D:CallC P f args res) (E:oL res) {fa d:Nat} (V:At fa (s.H fa) e args) (hd:s.H d=[]) (W:b.dst=some d) {K:Act->World->Prop} {Q:Exit->Act->World->Prop} (hK: ∀v w',dx w0 O X (jj s d (renTV d res.r) (res.fam.map (renO d))) (a.put b.dst v) w'->K (a.put b.dst v) w'):b.wp P a w K Q:=by
 obtain⟨h1,ag,ρ,q,A⟩:=ae;have A:aV X ρ s a w:=A;obtain⟨q1,q2⟩:=y5 V;have J: ∀j,Xo X ρ s.H j->j<w.heap.size:=fun g R=>by
  rcases R with R|⟨x,y,o',n,g1,g2⟩
  ·exact q.bar g R
  exact bJ (q.objs x y o' g1) g2
 have post: ∀v B m,Inv w (fun _=>False) (fun _=>False) (famH 0 res.fam) m B->res.r.rel m (famH 0 res.fam) (Xo (fun _=>False) m (famH 0 res.fam)) B v->dx w0 O X (jj s d (renTV d res.r) (res.fam.map (renO d))) (a.put (some d) v) B:=fun v B m F hr=>by
  have Z: ∀(x r:Nat) b,(famH 0 res.fam x)[r]?=some b->b∈res.fam:=fun x r b G=>by
   unfold famH at G;split at G
   ·exact aai G
   simp at G
  have ab: ∀{Y Y':Nat->Prop} (x r:Nat) b,b∈res.fam->objRel m (famH 0 res.fam) Y B x r b->objRel m (famH 0 res.fam) Y' B x r b:=fun{Y Y'} x r b hmem hob=>by
   obtain⟨z1,z2,z3⟩:=hob;refine⟨z1,z2,?_⟩;cases ad:m x r with
   |none=>rw[ad]at z3;exact z3
   |some bc=>
    obtain⟨g,n⟩:=bc;rw[ad]at z3;obtain⟨cells,p1,p2,p3,p4,p5⟩:=z3;refine⟨cells,p1,p2,p3,p4,fun i l j z he hz=>?_⟩;obtain⟨u,u1,u2,u3⟩:=p5 i l j z he hz;exact⟨u,u1,u2,nX (E.2 b hmem l (aai he) z (aai hz)) u3⟩
  by_cases I:res.plain=true
  ·exact lD (P:=P) (it:=(⟨0,f,args,res⟩:df P)) (d:=d) (v:=v) (w1:=B) (ρc:=m) h1 ag q A rfl rfl (fun _=>hd) (by rw[if_pos I];exact F) (by rw[if_pos I];exact hr)
  have a0:Inv w (fun _=>False) (Xo X ρ s.H) (famH 0 res.fam) m B:=
   ⟨F.keep,fun x r b G=>ab x r b (Z x r b G) (F.objs x r b G),F.inj,fun x r b g c G R=>by
    have:=F.old x r b g c G R;refine⟨this.1,fun hX=>?_⟩;rcases this.1 with h|h
    ·have:=J g hX;omega
    exact h,fun g R=>aaA (J g R) F.keep.size,F.self⟩
  exact lD (P:=P) (it:=(⟨0,f,args,res⟩:df P)) (d:=d) (v:=v) (w1:=B) (ρc:=m) h1 ag q A rfl rfl (fun _=>hd) (by rw[if_neg I];exact a0) (by rw[if_neg I];exact xG E.1 hr)
 have key: ∀vs:Array Value,(execOp a.eval b).run P w= .ok (.enter f vs) w->vs.size=args.length->(∀(j:Nat) t,e[j]?=some t-> ∃v:Value,vs[j]?=some v/\t.rel ρ s.H (Xo X ρ s.H) w v)->b.wp P a w K Q:=fun vs af a2 N=>by
  unfold Oper.wp;rw[af];simp only[Oper.upon];refine(D.2 (fun _=>False) w vs (fun j hj=>hj.elim) a2 fun j u hu=>?_).mono ?_
  ·obtain⟨t,L,ap⟩:=q2 j u hu;obtain⟨v,v1,v2⟩:=N j t L;exact⟨v,v1,FO q.objs ap v2⟩
  rintro l B ⟨v,rfl,m,F,hr⟩;have:=post v B m F hr;rw[W]at hK⊢;exact hK v B this
 unfold pu at p;split at p
 ·rename_i c ac;split at p
  ·rename_i f' C;obtain⟨ah,S,l⟩:=aak.1 p;injection l with l e'
   subst l e';obtain⟨M,e2⟩:=bV S;have T:c.args.size=args.length:=by rw[q1];simpa using M.symm
   refine key _ (jf ac C rfl D.1) (by simp[T]) fun j t L=>?_
   obtain⟨y,hy,U⟩:=e2 j t L;refine⟨a.eval y,?_,bz A y _ U⟩;rw[ace];have:c.args[j]?=some y:=by simpa using hy
   rw[this];rfl
  ·rename_i k C;split at p
   ·rename_i f' al ah av S;injection p with p
    injection p with l e'
    subst l e';obtain⟨M,e2⟩:=bV S;obtain⟨us,k1,k2,k3⟩:=jJ (v:=a.eval (.tmp k)) (fun t0 a1=>bz A (.tmp k) t0 a1) av;have aa:args.length=c.args.size+us.size:=by rw[q1,aaV,M,k2,adg]
    refine key _ (jT ac C k1 D.1) (by simp[aa]) fun j t L=>?_
    by_cases hj:j<ah.length
    ·rw[aaB hj]at L;obtain⟨y,hy,U⟩:=e2 j _ L;refine⟨a.eval y,?_,bz A y _ U⟩;rw[aa2 (by simp at M⊢;omega),ace];have:c.args[j]?=some y:=by simpa using hy
     rw[this];rfl
    rw[aaE (by omega)]at L;obtain⟨v,v1,v2⟩:=k3 _ _ L;refine⟨v,?_,v2⟩;rw[abn (by simp at M⊢;omega)];simp at M⊢;rw[<- M];exact v1
   cases p
  cases p
 cases p
theorem Oy {r e:Nat} {F:TypeId} {f:List (List AV)} (C:dx w0 O X s a w) (B:(s.H n)[r]?=some ⟨F,1,ae e [AV.junk]++f⟩): ∃vs:List Value,vs.length=e/\dx w0 O X ⟨s.tmps,ax s.H n ((s.H n).set r ⟨F,1,vs.map (fun v=>[AV.p (.raw v)])++f⟩)⟩ a w:=by
 obtain⟨K,D,ρ,l,z⟩:=C;have z:aV X ρ s a w:=z;obtain⟨U,q2,E⟩:=id (l.objs n r _ B);cases I:ρ n r with
 |none=>
  rw[I]at E;simp only[List.append_eq_nil_iff,List.replicate_eq_nil_iff]at E;obtain⟨rfl,rfl⟩:=E;refine⟨[],rfl,?_⟩;have:(s.H n).set r ⟨F,1,[].map (fun v=>[AV.p (.raw v)])++[]⟩=s.H n:=by
   apply aaC;intro i;rw[aa3];split
   ·rename_i m;subst m;rw[if_pos (aao.1 B).1,B];rfl
   rfl
  rw[this,show ax s.H n (s.H n)=s.H from funext fun x=>by unfold ax;split<;>simp_all];exact⟨K,D,ρ,l,z⟩
 |some N=>
  obtain⟨p,c⟩:=N;rw[I]at E;obtain⟨cells,T,Z,p3,p4,L⟩:=E;have G:(ae e [AV.junk]).length=e:=by simp
  refine⟨(List.range e).map fun i=>(cells[i]?).getD undef,by simp,?_⟩;have o: ∀(i:Nat) g,((((List.range e).map fun i=>(cells[i]?).getD undef).map (fun v=>[AV.p (.raw v)])++f:List (List AV)))[i]?=some g->(i<e/\g=[.p (.raw ((cells[i]?).getD undef))])\/(e<=i/\f[i-e]?=some g/\(ae e [AV.junk]++f)[i]?=some g):=fun i g y=>by
   by_cases m:i<e
   ·rw[aaB (by simpa using m)]at y;simp[m]at y;exact .inl ⟨m,y.symm⟩
   rw[aaE (by simpa using acP m)]at y;simp only[ab0,acs]at y;exact .inr ⟨by omega,y,by rw[aaE (by omega),G];exact y⟩
  obtain⟨R,S⟩:=wE l (o':=⟨F,1,((List.range e).map fun i=>(cells[i]?).getD undef).map (fun v=>[AV.p (.raw v)])++f⟩) B I T rfl rfl (by simp) (fun g A=>by
   obtain⟨i,m⟩:=abd.1 A;rcases o i g m with⟨_,rfl⟩|⟨_,_,h⟩
   ·rfl
   ·exact U g (aai h)) (fun g A x q=>by
   obtain⟨i,m⟩:=abd.1 A;rcases o i g m with⟨_,rfl⟩|⟨_,_,h⟩
   ·simp only[aaq]at q;subst q;trivial
   ·exact l.self n r _ B g (aai h) x q) (fun i g j x y q=>by
   rcases o i g y with⟨m,rfl⟩|⟨_,_,h⟩
   ·have Q:j=0:=by
     cases j with
     |zero=>rfl
     |succ j=>simp at q
    subst Q;simp at q;subst q;obtain⟨u,J,M,_⟩:=L i [.junk] 0 .junk (by rw[aaB (by omega)];simp[m]) rfl;simp only[adz,aa5]at J⊢;refine⟨u,J,M,?_⟩;rw[J];exact bM.raw u M
   exact L i g j x h q)
  exact⟨K,D,ρ,R,fun t x q=>by
   obtain⟨v,V,W⟩:=z t x q;exact⟨v,V,TV.rel_map W S⟩⟩
theorem SP {o:OH} {d:Nat} (q:g d=[]) (c:fX g h):ew o d h=h:=by
 have u: ∀x,fj g x->dF o d x=x:=fun x n=>by
  cases x with
  |p x=>rfl
  |junk=>rfl
  |sl b r y len=>
   have:b≠d:=fun e=>n (by rw[e];exact q)
   simp only[dF,if_neg this]
  |ptr b r i j=>
   have:b≠d:=fun e=>n (by rw[e];exact q)
   simp only[dF,if_neg this]
  |fn f b A=>
   have:b≠d:=fun e=>n.1 (by rw[e];exact q)
   simp only[dF,if_neg this]
 have m: ∀l:List AV,(∀x∈l,fj g x)->l.map (dF o d)=l:=fun l v=>by
  conv=>rhs;rw[<- ab7 l]
  exact aaN fun x n=>u x (v x n)
 cases h with
 |one x=>simp only[ew,u x c]
 |agg l=>simp only[ew,m l c]
 |fn f l=>simp only[ew,m l c]
 |tup z=>
  simp only[ew]
  congr 1
  conv=>rhs;rw[<- ab7 z]
  exact aaN fun x n=>by
   rw[m x.2 (c x n)];rfl
theorem MZ {d:Nat} {F:List OObj} {x:PV} (u:kV s) (f:s.H d=[]) (g: ∀H:OH,H d=F->qB H d/\ew H d h= .one (.p x)):bG (jj s d h F) (s.put (some d) (.one (.p x))):=by
 have e:ax s.H d []=s.H:=funext fun y=>by
  unfold ax;split
  ·rename_i b;rw[b];exact f.symm
  rfl
 obtain⟨c,j,m,n⟩: ∃c:OH,jj s d h F=⟨s.tmps.set d h,c⟩/\c d=F/\ax c d []=s.H:=by
  cases F with
  |nil=>exact⟨s.H,rfl,f,e⟩
  |cons o l=>
   refine⟨ax s.H d (o::l),rfl,aM,?_⟩;rw[<- e];funext y;unfold ax;split<;>rfl
 rw[j];obtain⟨f1,f2⟩:=g c m;have b:=bD (s:=⟨s.tmps.set d h,c⟩) d f1;simp only[n,aeo,f2]at b;have q:s.tmps.map (ew c d)=s.tmps:=by
  conv=>rhs;rw[<- ab7 s.tmps]
  exact aaN fun t v=>by
   obtain⟨k,r⟩:=abd.1 v;exact SP f (u.1 k t r)
 rw[q]at b;exact b
def UP (P:Program) (f:FuncId) (e:List TV) (c d r n:Nat) (g:TypeId) (b:List (List AV)) (x:PV) (F:List OObj):Prop:= ∀vs:List Value,vs.length=n-> ∃args res,CallC P f args res/\oL res/\At c (F.set r ⟨g,1,vs.map (fun v=>[AV.p (.raw v)])++b⟩) e args/\
 ∀H:OH,H d=res.fam.map (renO d)->qB H d/\ew H d (renTV d res.r)= .one (.p x)
theorem L4 {d r g:Nat} {m:TypeId} {l:List (List AV)} {x:PV} (S:pu b s=some (f,e)) (q:b.dst=some d) (hd:s.H d=[]) (L:n≠d) (t:(s.H n)[r]?=some ⟨m,1,ae g [AV.junk]++l⟩) (A:UP P f e n d r g m l x (s.H n)):
  AB P b (dx w0 O X s) (dx w0 O X (s.put b.dst (.one (.p x)))):=fun a w K Q hr W=>by
 obtain⟨vs,I,D⟩:=Oy hr t;obtain⟨args,res,Z,u,z,M⟩:=A vs I;have J:AS.ev ⟨s.tmps,ax s.H n ((s.H n).set r ⟨m,1,vs.map (fun v=>[AV.p (.raw v)])++l⟩)⟩=s.ev:=funext fun y=>by cases y<;>rfl
 have E:pu b ⟨s.tmps,ax s.H n ((s.H n).set r ⟨m,1,vs.map (fun v=>[AV.p (.raw v)])++l⟩)⟩=some (f,e):=by
  rw[<- S];unfold pu;simp only[J]
 have B:ax s.H n ((s.H n).set r ⟨m,1,vs.map (fun v=>[AV.p (.raw v)])++l⟩) d=[]:=by rw[aG (acE L)];exact hd
 refine jI (.inl rfl) (PM D E Z u (fa:=n) (by simp only[aM];exact z) B q fun v w' r'=>W v w' ?_);have r3:=MZ (eP D) B M _ _ _ _ _ r';have R:=(aao.1 t).1;have hw:=l8 (s:=AS.put ⟨s.tmps,ax s.H n ((s.H n).set r ⟨m,1,vs.map (fun v=>[AV.p (.raw v)])++l⟩)⟩ (some d) (.one (.p x))) n r (o:=⟨m,1,vs.map (fun v=>[AV.p (.raw v)])++l⟩) (o':=⟨m,1,ae g [AV.junk]++l⟩) (by rw[fE];simp only[aM];exact abA R) rfl rfl (by simp[I]) (fun i U C=>by
  have N:(ae g [AV.junk]).length=g:=by simp
  by_cases G:i<g
  ·rw[aaB (by omega)]at C;simp[G]at C;subst C;refine⟨[.p (.raw (vs[i]'(by omega)))],by rw[aaB (by simp;omega)];simp[I,G],rfl,fun j x F=>?_⟩;cases j with
   |zero=>simp at F;exact .inl F.symm
   |succ j=>simp at F
  rw[aaE (by omega),N]at C;exact⟨U,by rw[aaE (by simp;omega)];simpa[I] using C,rfl,fun j x F=> .inr F⟩)
 have T:=hw _ _ _ _ _ r3;have c:(AS.mk (AS.put ⟨s.tmps,ax s.H n ((s.H n).set r ⟨m,1,vs.map (fun v=>[AV.p (.raw v)])++l⟩)⟩ (some d) (.one (.p x))).tmps (ax (AS.put ⟨s.tmps,ax s.H n ((s.H n).set r ⟨m,1,vs.map (fun v=>[AV.p (.raw v)])++l⟩)⟩ (some d) (.one (.p x))).H n (((AS.put ⟨s.tmps,ax s.H n ((s.H n).set r ⟨m,1,vs.map (fun v=>[AV.p (.raw v)])++l⟩)⟩ (some d) (.one (.p x))).H n).set r ⟨m,1,ae g [AV.junk]++l⟩)))=s.put (some d) (.one (.p x)):=by
  simp only[AS.put,aM,List.set_set];have V:(s.H n).set r ⟨m,1,ae g [AV.junk]++l⟩=s.H n:=by
   apply aaC;intro i;rw[aa3];split
   ·rename_i G;subst G;exact t.symm
   rfl
  rw[V]
  congr 1
  funext y;unfold ax;split
  ·rename_i h;rw[h]
  rfl
 rw[c]at T;rw[q];rw[q]at T;exact T
theorem L3 {R:AS->Act->World->Prop} (e:MN R) {c:AS} (h: ∀w0 O X,AB P b (dx w0 O X s) (dx w0 O X c)):AB P b (R s) (R c):=fun a w K Q l j=>by
 obtain⟨r,f,g,p,m⟩:=e s a w l;exact h r f g a w K Q p fun v q n=>j v q (m _ _ _ n)
theorem SC {q:List Nat} {p:AS} (h:r7 (BI c n) q s p):cxTs c n p=cxTs c n s:=by
 unfold cxTs;have l:=h.1;unfold BI at l;cases t:c[n]? with
 |none=>rfl
 |some o=>
  rw[t]at l;simp only at l⊢;have e: ∀y∈o.op.operands,p.ev y=s.ev y:=fun y j=>by
   cases y with
   |tmp k=>exact l k (adn.2 ⟨.tmp k,by simpa using j,rfl⟩)
   |_=>rfl
  have:pu o p=pu o s:=by
   unfold pu;split
   ·rename_i b r;rw[r]at e;simp only[Op.operands,Call.operands]at e;split
    ·rename_i f g;rw[g]at e;rw[iW b.args.toList fun y j=>e y (by simp at j⊢;exact .inr j)]
    ·rename_i k g;rw[g]at e;rw[iW b.args.toList fun y j=>e y (by simp at j⊢;exact .inr j),e (.tmp k) (by simp)]
    rfl
   rfl
  rw[this]
variable {γ:Type} {L:f5 γ} {g:γ} {Q:Exit->AS->γ->Prop}
theorem yL (C:P.follows .mixedOrders=true) (m l d r n:Nat) (G:TypeId) (v:List (List AV)) (x:PV) {f:FuncId} {ts:List TV} (b:List (ao P)) (y:List Nat) {id:Nat} (F:cW ks c=true) (S:OZ c m c.size [l,d]=true) (e:cwD c m=some d) (B:l≠d) (h: ∀K:AS->Prop,(∀j,(cxTs c m j=some (f,ts)/\j.H d=[]/\(j.H l)[r]?=some ⟨G,1,ae n [AV.junk]++v⟩/\UP P f ts l d r n G v x (j.H l)/\ ∀K:AS->Prop,(∀z,Q .normal z g->K z)->aS P (b.map ao.a) y (aJ c (c.toList.drop (m+1)) (m+1)) (some (j.put (some d) (.one (.p x)))) K)->K j)->aS P (b.map ao.a) y (aJ c (c.toList.take m) 0) (some s) K):dW P L ks (.region id c true) Q s g:=fun I Y w0 O X a w r0=>by
 obtain⟨j,M,U,V,W,q4,Z⟩:=aR P (b.map ao.a) y c _ 0 s _ (h _ fun j q=>q);obtain⟨s2,N,R⟩:=aR P (b.map ao.a) y c _ (m+1) _ _ (Z (fun s=>Q .normal s g) fun _ h=>h);refine Dm (R1:=jA L ks I Y w0 O X g) (R2:=jA L ks I Y w0 O X g) fK C b y m c.size [l,d] x F S M (fun z D hl=>?_) (by rw[e,aaz (by simp)];exact N) (fun h=>absurd h (aeb _)) (fun _ _ _ h=>h) r0 fun a' w' r'=>⟨s2,g,R,r'⟩
 rw[e];refine pZ F ?_;have u:=(SC D).trans U;unfold cxTs at u;cases A:c[m]? with
 |none=>rw[A]at u;cases u
 |some o=>
  rw[A]at u;simp only at u;split at u
  ·rename_i T;have t:o.dst=some d:=by unfold cwD at e;rw[A]at e;exact e
   refine⟨o,A,by simpa using T,?_⟩;rw[<- t];have E:z.H l=j.H l:=D.2 l (by simp);have J:z.H d=j.H d:=D.2 d (by simp);exact L3 sQ fun w0 O X=>L4 u t (by rw[J];exact V) B (by rw[E];exact W) (by rw[E];exact q4)
  cases u
end
end
end Go.Proofs.YtalmoejhjceflaaGreat
