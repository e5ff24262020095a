/-
  Part 8 of a proof (walks and plain facts).
-/
import Derived.Test.YtalmoejhjceflaaGreatR06
set_option linter.all false
set_option maxRecDepth 100000
set_option maxHeartbeats 64000000
namespace Go.Proofs.YtalmoejhjceflaaGreat
open Go.RowKit
variable {s b:AS} {c:Exit->AS->Prop} {n:Nat} {e:Nat->Prop} {f:OObj} {g:Array Oper} {w:World} {h:Nat->Bool} {j:Oper} {l:Value} {m:Code} {o:Rho} {p:AV} {q:TV}
section
def Zt:Op->Bool
 | .store ..=>false
 | .call {callee:= .builtin .append,..}=>false
 |_=>true
theorem xD {P:Program} {op:Op} (h:Zt op=true): ∀e G,gn P e G op=none:=fun e G=>by
 cases op<;>simp only[gn]<;>try rfl
 case store=>cases h
 case call c=>
  obtain⟨callee,args,g⟩:=c;cases callee with
  |value f=>rfl
  |invoke r m=>rfl
  |builtin b=>cases b<;>first|rfl|cases h
def jY (acc:List Nat):List Edge->Nat
 |[]=>0
 |e::l=>if Region.binds .any e then 2^e.on|||(acc.getD e.on 0|||jY acc l)else jY acc l
def nB:List Oper->List Nat->List Nat
 |[],acc=>acc
 |o::l,acc=>nB l (acc++[jY acc o.after.toList])
def Qb (b:List (Nat×Nat×Nat)) (c e:Oper):Bool:=match c.op,e.op with
 | .load _ (.tmp p),.store t (.tmp q) _=>b.contains (p,q,t)&&c.guard.isNone&&e.guard.isNone
 |_,_=>false
def tw (f:List (Nat×Nat×Nat)) (e:Array Oper) (b c:Oper):Bool:=b.apart e c&&(nH b.op||nH c.op||(Zt b.op&&Zt c.op)||Qb f b c)
def El (c:List (Nat×Nat×Nat)) (b:Array Oper) (e:Oper) (m:Nat):List Oper->Nat->Bool
 |[],_=>true
 |oi::l,i=>(m.testBit i||tw c b oi e)&&El c b e m l (i+1)
def BZ (c:List (Nat×Nat×Nat)) (b:Array Oper) (A:List Nat):List Oper->Nat->Bool
 |[],_=>true
 |oj::l,j=>oj.after.all (fun e=>!Region.binds .any e||decide (e.on<j))&&El c b oj (A.getD j 0) (b.toList.take j) 0&&BZ c b A l (j+1)
def bX (c:List (Nat×Nat×Nat)) (b:Array Oper):Bool:=BZ c b (nB b.toList []) b.toList 0&&b.toList.all fun o=>c.all fun x=>o.dst !=some x.1&&o.dst !=some x.2.1
def CG (c:List (Nat×Nat×Nat)) (s:AS):Prop:= ∀x∈c,∀a r i j b g e f,s.tmps[x.1]?=some (.one (.ptr a r i j))->s.tmps[x.2.1]?=some (.one (.ptr b g e f))->b≠a
def Ip (b:List (Nat×Nat×Nat)) (s:AS):Prop:=lT s/\CG b s
def Kg (P:Program) (b:List (Nat×Nat×Nat)) (c:Array Oper):Prop:=(∀x∈b,ir P x.2.2≠some 1)/\ ∀(j:Nat) o,c[j]?=some o-> ∀x∈b,o.dst≠some x.1/\o.dst≠some x.2.1
section
variable {ops:Array Oper} {sep:List (Nat×Nat×Nat)}
theorem zx: ∀(l:List Oper) (acc:List Nat),(nB l acc).length=acc.length+l.length/\(∀k,k<acc.length->(nB l acc)[k]?=acc[k]?)/\
  ∀(j:Nat) o,l[j]?=some o->(nB l acc)[acc.length+j]?=some (jY ((nB l acc).take (acc.length+j)) o.after.toList)
 |[],acc=>⟨by simp[nB],fun k _=>rfl,fun j o h=>by simp at h⟩
 |o::l,acc=>by
  obtain⟨f,e,g⟩:=zx l (acc++[jY acc o.after.toList]);simp only[nB];refine⟨by rw[f];simp;omega,fun k c=>by rw[e k (by simp;omega),aal c],fun j m b=>?_⟩;cases j with
  |zero=>
   simp at b;subst b;rw[aa3,e acc.length (by simp)];have:(nB l (acc++[jY acc o.after.toList])).take acc.length=acc:=by
    apply aay;intro k;rw[aaH];split
    ·rename_i c;rw[e k (by simp;omega),aal c]
    rename_i c;rw[acP (by omega)]
   rw[this]
   simp
  |succ j=>
   simp at b;have:=g j m b;simp only[aa6,aaG,ab3]at this;rw[show acc.length+(0+1)+j=acc.length+(j+1) by omega]at this;exact this
theorem nS {acc:List Nat} {i:Nat}: ∀{l:List Edge},(jY acc l).testBit i=true-> ∃e∈l,Region.binds .any e=true/\(e.on=i\/(acc.getD e.on 0).testBit i=true)
 |[],h=>by simp[jY]at h
 |e::l,h=>by
  simp only[jY]at h;split at h
  ·rename_i g;simp only[Nat.testBit_or,abV,aej,decide_eq_true_eq]at h;rcases h with h|h|h
   ·exact⟨e,by simp,g,.inl h⟩
   ·exact⟨e,by simp,g,.inr h⟩
   obtain⟨b,c,f⟩:=nS h;exact⟨b,by simp[c],f⟩
  obtain⟨b,c,f⟩:=nS h;exact⟨b,by simp[c],f⟩
def AP (ops:Array Oper) (p:Nat->Bool):Prop:= ∀(j:Nat) o,ops[j]?=some o->p j=true-> ∀e∈o.after,Region.binds .any e=true->p e.on=true
theorem iE (t:AP ops h) {i:Nat}: ∀(n j:Nat),j<n->j<ops.size->h j=true->((nB ops.toList []).getD j 0).testBit i=true->h i=true:=by
 intro n
 induction n with
 |zero=>intro j b;omega
 |succ n u=>
  intro j _ f l c;obtain⟨v,_,m⟩:=zx ops.toList [];have s:ops.toList[j]?=some ops[j]:=by simp[f]
  have:=m j _ s;simp only[ab3,aaO]at this;rw[aav,this,abh]at c;obtain⟨e,q,o,b⟩:=nS c;have g:=t j ops[j] (by simp[f]) l e (by simpa using q) o;rcases b with rfl|b
  ·exact g
  rw[aav,aaH]at b;split at b
  ·rename_i r;exact u e.on (by omega) (by omega) g (by rw[aav];exact b)
  simp at b
theorem x5 {f:Oper} {m:Nat}: ∀{l:List Oper} {b:Nat},El sep ops f m l b=true-> ∀(k:Nat) c,l[k]?=some c->m.testBit (b+k)=true\/tw sep ops c f=true
 |[],b,_,k,c,h=>by simp at h
 |o::l,b,h,k,c,e=>by
  simp only[El,aaF,abV]at h;cases k with
  |zero=>simp at e;subst e;exact h.1
  |succ k=>
   simp at e;have:=x5 h.2 k c e;rwa[show b+1+k=b+(k+1) by omega]at this
theorem oC {A:List Nat}: ∀{l:List Oper} {b:Nat},BZ sep ops A l b=true-> ∀(k:Nat) c,l[k]?=some c->(∀e∈c.after,Region.binds .any e=true->e.on<b+k)/\El sep ops c (A.getD (b+k) 0) (ops.toList.take (b+k)) 0=true
 |[],b,_,k,c,h=>by simp at h
 |o::l,b,h,k,c,f=>by
  simp only[BZ,aaF]at h;cases k with
  |zero=>
   simp at f;subst f;refine⟨fun e j g=>?_,h.1.2⟩;have:=h.1.1;rw[Array.all_eq_true_iff_forall_mem]at this;have:=this e j;simpa[g] using this
  |succ k=>
   simp at f;have:=oC h.2 k c f;rwa[show b+1+k=b+(k+1) by omega]at this
theorem l5 (h:bX sep ops=true):(∀(j:Nat) o,ops[j]?=some o-> ∀e∈o.after,Region.binds .any e=true->e.on<j)/\
  ∀(i j:Nat) b c,i<j->ops[i]?=some b->ops[j]?=some c->((nB ops.toList []).getD j 0).testBit i=true\/tw sep ops b c=true:=by
 unfold bX at h;rw[aaF]at h
 replace h:=h.1
 refine⟨fun j o p e l g=>?_,fun i j b c f m n=>?_⟩
 ·have:=(oC h j o (by simpa using p)).1 e l g;simpa using this
 have:=(oC h j c (by simpa using n)).2;rw[aaO]at this;have:=x5 this i b (by rw[aaH,if_pos f];simpa using m);rwa[aaO]at this
variable {P:Program} {items:List (cB P)} {ow:List Nat}
noncomputable def de (P:Program) (items:List (cB P)) (ow:List Nat) (ops:Array Oper) (i:Nat) (s:AS):Option AS:=match ops[i]? with
 |some o=>aS P items ow ops i o s
 |none=>none
noncomputable def cw (P:Program) (items:List (cB P)) (ow:List Nat) (ops:Array Oper):List Nat->AS->Option AS
 |[],s=>some s
 |i::l,s=>(de P items ow ops i s).bind (cw P items ow ops l)
theorem iq (l m:List Nat) (s:AS):cw P items ow ops (l++m) s=(cw P items ow ops l s).bind (cw P items ow ops m):=by
 induction l generalizing s with
 |nil=>rfl
 |cons i l b=>
  simp only[acq,cw];cases de P items ow ops i s with
  |none=>rfl
  |some c=>exact b c
theorem kB (h:bX sep ops=true) (g: ∀x∈sep,ir P x.2.2≠some 1):Kg P sep ops:=⟨g,fun j o e x f=>by
 unfold bX at h;rw[aaF,aah]at h;have b:=h.2 o (by simpa using Array.mem_of_getElem? e);rw[aah]at b;have c:=b x f;simpa using c⟩
theorem BT {s:AS} {d:Option Tmp} (n:CG sep s) (m: ∀x∈sep,d≠some x.1/\d≠some x.2.1):CG sep (s.put d q):=fun x g a r i j b u o p h l=>by
 rw[mg s d q x.1 (fun e f c=>(m x g).1 (by rw[f,c]))]at h;rw[mg s d q x.2.1 (fun e f c=>(m x g).2 (by rw[f,c]))]at l;exact n x g a r i j b u o p h l
theorem DI {k:Nat->Nat->Bool} {a i j:Nat} (h:aP k q= .one (.ptr a n i j)):q= .one (.ptr a n i j):=by
 cases q with
 |one x=>cases x<;>simp only[aP,aN]at h<;>(try split at h)<;>simp_all
 |agg b=>cases h
 |fn f b=>cases h
 |tup c=>cases h
theorem OI {h:List TV} {H l:OH} {k:Nat->Nat->Bool} (o:CG sep ⟨h,H⟩):CG sep ⟨h.map (aP k),l⟩:=fun x p a r i j b t q s f g=>by
 simp only[u9]at f g;obtain⟨t1,c,m⟩:=u6.1 f;obtain⟨t2,e,n⟩:=u6.1 g;rw[DI m]at c;rw[DI n]at e;exact o x p a r i j b t q s c e
theorem DS (g:Kg P sep ops) {i:Nat} (n:ops[i]?=some j) (c:Ip sep s) (h:aS P items ow ops i j s=some b):Ip sep b:=by
 refine⟨AW c.1 h,?_⟩;have f:=g.2 i j n;rw[bN]at h;obtain⟨out,_,h⟩:=aaw.1 h;cases out with
 |val t=>simp only[b6]at h;injection h with h;subst h;exact BT c.2 f
 |new t p l=>
  simp only[b6]at h;split at h
  ·rename_i e m;split at h
   ·injection h with h;subst h
    rw[<- m];exact BT (s:=⟨s.tmps,_⟩) c.2 f
   cases h
  cases h
 |wr q=>simp only[b6]at h;injection h with h;subst h;exact BT (OI (H:=s.H) c.2) f
theorem LQ (g:Kg P sep ops) {l:List Nat} (e:Ip sep s) (h:cw P items ow ops l s=some b):Ip sep b:=by
 induction l generalizing s with
 |nil=>simp only[cw]at h;injection h with h;subst h;exact e
 |cons i l m=>
  simp only[cw]at h;obtain⟨n,c,f⟩:=aaw.1 h;unfold de at c;split at c
  ·rename_i o j;exact m (DS g j e c) f
  cases c
theorem Le (b:List TV):b.map (aP fun _ _=>false)=b:=by
 conv=>rhs;rw[<- ab0 b]
 exact aaA fun t _=>mN t
theorem Hg {t:TypeId} {m x:Operand} {q:Fh} (o:ir P t≠some 1) (h:gn P s.ev s.H (.store t m x)=some q): ∃b r i j F,s.ev m=some (.one (.ptr b r i j))/\q=⟨.undef,aw s.H b F,fun _ _=>false⟩:=by
 simp only[gn]at h;split at h
 ·rename_i a r i j n g l;have c:n≠1:=fun e=>o (by rw[l,e])
  split at h
  ·split at h
   ·split at h
    ·split at h
     ·split at h
      ·rename_i f;exact absurd f.1 c
      cases h
     split at h
     ·split at h
      ·rename_i f;exact absurd f.2.2.2.2.1 c
      cases h
     cases h
    ·split at h
     ·split at h
      ·rename_i f;exact absurd f.1 c
      cases h
     cases h
    ·split at h
     ·split at h
      ·injection h with h;exact⟨a,r,i,j,_,g,h.symm⟩
      cases h
     cases h
    cases h
   cases h
  cases h
 cases h
theorem Qc (T:Kg P sep ops) {i:Nat} {v:Oper} {O:AS} (A:Qb sep j v=true) (X:Ip sep s) (K:lD ops v j.dst) (L:lD ops j v.dst) (V: ∀k,j.dst=some k->v.dst≠some k) (m:aS P items ow ops i j s=some b) (o:aS P items ow ops n v b=some O): ∃Q,aS P items ow ops n v s=some Q/\aS P items ow ops i j Q=some O:=by
 unfold Qb at A;split at A
 ·rename_i ty p t q x l E;simp only[aaF]at A;obtain⟨⟨D,G⟩,I⟩:=A;have D:(p,q,t)∈sep:=by simpa using D
  have G:j.guard=none:=by simpa using G
  have I:v.guard=none:=by simpa using I
  rw[bN]at m o;obtain⟨ui,B,m⟩:=aaw.1 m;obtain⟨uj,u,o⟩:=aaw.1 o;have R: ∀s,cX P items ow ops i j s=(bU P s.ev s.H j.op).map .val:=fun s=>by
   unfold cX gate lf;rw[G];simp only;rw[l];simp only[nH,yD,aa5,if_false,if_true]
  rw[R]at B;obtain⟨tv,h,rfl⟩:=u6.1 B;simp only[b6]at m;injection m with m
  subst m;rw[cj K]at u;have g:=u;unfold cX gate lf at g;rw[I]at g;simp only at g;rw[E]at g;simp only[nH,yD,aa5,if_false]at g;split at g
  ·rename_i qq N;injection g with g
   subst g;obtain⟨c,r',Y,j',F,U,rfl⟩:=Hg (T.1 _ D) N;simp only[b6]at o;injection o with o
   subst o;refine⟨_,by rw[bN,u];rfl,?_⟩;rw[bN,cj L,R];simp only[Le];have e:bU P (AS.ev ⟨s.tmps,aw s.H c F⟩) (aw s.H c F) j.op=some tv:=by
    rw[<- h];refine(w7 (fun y C=>?_) (fun y C tt w=>?_)).symm
    ·cases y<;>rfl
    rw[l]at C;have C:y= .tmp p:=by simpa[Op.operands] using C
    subst C;cases tt with
    |one z=>
     cases z with
     |ptr a r Z j0=>
      have:=X.2 _ D a r Z j0 c r' Y j' w U;exact aD (fun J=>this J.symm)
     |sl a r aa len=>simp only[l,bU,w]at h;cases h
     |p y=>trivial
     |junk=>trivial
     |fn=>simp only[l,bU,w]at h;cases h
    |agg S=>simp only[l,bU,w]at h;cases h
    |fn f S=>simp only[l,bU,w]at h;cases h
    |tup ts=>simp only[l,bU,w]at h;cases h
   rw[e];simp only[aaT,aa8,b6];rw[gA _ _ _ (fun k W M=>V k M (by rw[W]))]
   congr 2
   cases j.dst<;>rfl
  split at g
  ·cases g
  simp only[b9,GU]at g;cases g
 cases A
theorem LG (w:Kg P sep ops) {i:Nat} {l:Oper} {u:AS} (h:tw sep ops j l=true) (t:Ip sep s) (q:aS P items ow ops i j s=some b) (r:aS P items ow ops n l b=some u):
  ∃v,aS P items ow ops n l s=some v/\aS P items ow ops i j v=some u:=by
 unfold tw at h;simp only[aaF,abV]at h;obtain⟨x,c⟩:=h;obtain⟨m,o,p⟩:=Oper.apart_spec x;rcases c with c|c
 case inr=>exact Qc w c t (fun e f=>m e f) (fun e f=>p e f) (fun k g=>o k g) q r
 refine L7 t.1 (fun e f=>m e f) (fun e f=>p e f) (fun k g=>o k g) ?_ q r;rcases c with(c|c)|c
 ·exact .inl c
 ·exact .inr (.inl c)
 exact .inr (.inr ⟨xD c.1,xD c.2⟩)
theorem NA (m:Kg P sep ops) {i:Nat} {u:Oper} (n:ops[i]?=some u): ∀{l:List Nat} {s f:AS},Ip sep s->(∀j∈l,∃p,ops[j]?=some p/\tw sep ops u p=true)->cw P items ow ops (i::l) s=some f->
  ∃g,cw P items ow ops l s=some g/\de P items ow ops i g=some f
 |[],s,f,_,_,h=>by
  simp only[cw]at h;obtain⟨B,e,b⟩:=aaw.1 h;injection b with b
  subst b;exact⟨s,rfl,e⟩
 |j::l,s,f,t,r,h=>by
  simp only[cw]at h;obtain⟨B,e,h⟩:=aaw.1 h;obtain⟨C,b,w⟩:=aaw.1 h;obtain⟨p,c,x⟩:=r j (by simp);unfold de at e b;rw[n]at e;rw[c]at b;obtain⟨t1,q,v⟩:=LG m x t e b;have y:cw P items ow ops (i::l) t1=some f:=by
   simp only[cw,de,n];rw[v];exact w
  obtain⟨g,z,A⟩:=NA m n (DS m c t q) (fun j o=>r j (by simp[o])) y;refine⟨g,?_,A⟩;simp only[cw,de,c];rw[q];exact z
def lw (n:Nat) (p:Nat->Bool):List Nat:=(List.range n).filter p
def cq (p:Nat->Bool) (i:Nat):Nat->Bool:=fun j=>j==i||p j
theorem tK {i:Nat} (l:i<n) (p:Nat->Bool) (g:p i=false):
  lw n p=(List.range i).filter p++(List.range' (i+1) (n-i-1)).filter p/\lw n (cq p i)=(List.range i).filter p++i::(List.range' (i+1) (n-i-1)).filter p:=by
 have h:List.range n=List.range i++i::List.range' (i+1) (n-i-1):=by
  have c:=abf (s:=0) (m:=i) (n:=n-i-1+1);rw[show i+(n-i-1+1)=n by omega,aaO,aa1]at c;rw[aax,aax];exact c.symm
 unfold lw;rw[h];simp only[adv,List.filter_cons,g];refine⟨by simp,?_⟩;have e:(List.range i).filter (cq p i)=(List.range i).filter p:=acQ fun j b=>by
  have:j≠i:=by have:=aaK.1 b;omega
  simp[cq,this]
 have f:(List.range' (i+1) (n-i-1)).filter (cq p i)=(List.range' (i+1) (n-i-1)).filter p:=acQ fun j b=>by
  have:j≠i:=by have:=(acS.1 b).1;omega
  simp[cq,this]
 rw[e,f];simp[cq]
theorem yg (o:Kg P sep ops) (y:bX sep ops=true) (x:AP ops h) {i:Nat} (q:i<ops.size) (t:h i=false) (C:Ip sep s) (c:cw P items ow ops (lw ops.size (cq h i)) s=some b):
  ∃f,cw P items ow ops (lw ops.size h) s=some f/\de P items ow ops i f=some b:=by
 obtain⟨u,v⟩:=tK q h t;rw[v,iq]at c;obtain⟨F,n,w⟩:=aaw.1 c;have r:ops[i]?=some ops[i]:=by simp[q]
 obtain⟨f,D,E⟩:=NA o r (LQ o C n) (fun j z=>by
  obtain⟨l,m⟩:=ad3.1 z;obtain⟨A,B⟩:=acS.1 l;have e:j<ops.size:=by omega
  refine⟨ops[j],by simp[e],?_⟩;rcases(l5 y).2 i j ops[i] ops[j] (by omega) r (by simp[e])with g|g
  ·exact absurd (iE x (j+1) j (by omega) e m g) (by simp[t])
  exact g) w
 refine⟨f,?_,E⟩;rw[u,iq,n];exact D
theorem A7 (m:AP ops h) {i:Nat} (b: ∀o,ops[i]?=some o-> ∀e∈o.after,Region.binds .any e=true->h e.on=true):AP ops (cq h i):=fun j o l n e g f=>by
 by_cases c:j=i
 ·subst c;simp[cq,b o l e g f]
 have:h j=true:=by simpa[cq,c] using n
 simp[cq,m j o l this e g f]
theorem pp {n:Nat} {p:Nat->Bool}:(∀j,j<n->p j=true)\/ ∃i,i<n/\p i=false/\ ∀j,j<i->p j=true:=by
 by_cases h: ∃i,i<n/\p i=false
 ·obtain⟨i,⟨c,e⟩,f⟩:=bJ h;refine .inr ⟨i,c,e,fun j g=>?_⟩;cases b:p j with
  |true=>rfl
  |false=>have:=f j ⟨by omega,b⟩;omega
 refine .inl fun j g=>?_
 cases b:p j with
 |true=>rfl
 |false=>exact absurd ⟨j,g,b⟩ h
theorem Qa (G:Kg P sep ops) (x:bX sep ops=true) (J:Ip sep s) (v:cw P items ow ops (List.range ops.size) s=some b): ∀(m:Nat) (p:Nat->Bool),((List.range ops.size).filter fun j=>!p j).length<=m->AP ops p-> ∃c,cw P items ow ops (lw ops.size p) s=some c:=by
 intro m
 induction m with
 |zero=>
  intro p z _;have f: ∀j,j<ops.size->p j=true:=fun j h=>by
   cases u:p j with
   |true=>rfl
   |false=>
    have:j∈(List.range ops.size).filter fun j=>!p j:=ad3.2 ⟨aaK.2 h,by simp[u]⟩
    have E:=abC.1 (Nat.le_zero.1 z);rw[E]at this;simp at this
  refine⟨b,?_⟩;unfold lw;rw[ac1.2 (fun j h=>f j (aaK.1 h))];exact v
 |succ m M=>
  intro p z w;rcases pp (n:=ops.size) (p:=p)with f|⟨i,y,q,t⟩
  ·refine⟨b,?_⟩;unfold lw;rw[ac1.2 (fun j h=>f j (aaK.1 h))];exact v
  have r:AP ops (cq p i):=A7 w fun o K e I H=>t _ ((l5 x).1 i o K e I H)
  have g:((List.range ops.size).filter fun j=>!cq p i j).length<=m:=by
   have A:((List.range ops.size).filter fun j=>!p j).length=((List.range ops.size).filter fun j=>!cq p i j).length+1:=by
    obtain⟨B,C⟩:=tK y (fun j=>!cq p i j) (by simp[cq]);have D:lw ops.size (cq (fun j=>!cq p i j) i)=(List.range ops.size).filter fun j=>!p j:=acQ fun j _=>by
     by_cases l:j=i
     ·subst l;simp[cq,q]
     have:(j==i)=false:=by simpa using l
     simp only[cq,this,adK]
    rw[<- D,C];show _=(lw ops.size fun j=>!cq p i j).length+1;rw[B]
    simp;omega
   omega
  obtain⟨c,L⟩:=M (cq p i) g r;obtain⟨N,F,_⟩:=yg G x w y q J L;exact⟨N,F⟩
theorem fA: ∀(l:List Oper) (k:Nat) (s:AS),(∀(j:Nat) o,l[j]?=some o->ops[k+j]?=some o)->f7 P items ow ops (l.zipIdx k) s=cw P items ow ops (List.range' k l.length) s
 |[],k,s,_=>rfl
 |o::l,k,s,h=>by
  simp only[abO,f7,aaG,aa1,cw];have c:ops[k]?=some o:=by have:=h 0 o rfl;simpa using this
  unfold de;rw[c];simp only;cases aS P items ow ops k o s with
  |none=>rfl
  |some e=>
   simp only[aa8];exact fA l (k+1) e (fun j o b=>by have:=h (j+1) o (by simpa using b);rwa[show k+(j+1)=k+1+j by omega]at this)
def pF (ops:Array Oper) (Qn:Act->World->Prop) (Wp:Nat->(Act->World->Prop)->Act->World->Prop):Nat->Array Bool->Act->World->Prop
 |0,b,a,w=>Region.ready .any ops b=[]/\Qn a w
 |f+1,b,a,w=>(Region.ready .any ops b=[]->Qn a w)/\ ∀i∈Region.ready .any ops b,Wp i (pF ops Qn Wp f (b.setIfInBounds i true)) a w
theorem C5 {Q:Exit->Act->World->Prop}: ∀f,pF ops (Q .normal) (fun i K a w=>wpOp P ops Q i K a w) f=wpAny P .any ops Q f
 |0=>rfl
 |f+1=>by
  funext l a w;simp only[pF,wpAny,C5 f]
theorem mB (hS:Kg P sep ops) (V:bX sep ops=true) {Qn:Act->World->Prop} {Wp:Nat->(Act->World->Prop)->Act->World->Prop} (R:(Nat->Bool)->AS->Act->World->Prop) (hl:Ip sep s) (hF:cw P items ow ops (List.range ops.size) s=some b) (hQ: ∀p a w,(∀j,j<ops.size->p j=true)->R p b a w->Qn a w) (I: ∀(p:Nat->Bool) (i:Nat) (o:Oper) (c O:AS) (a:Act) (w:World) (K:Act->World->Prop),ops[i]?=some o->p i=false->AP ops p/\AP ops (cq p i)/\cw P items ow ops (lw ops.size p) s=some c->aS P items ow ops i o c=some O->R p c a w->(∀v w',R (cq p i) O (a.put o.dst v) w'->K (a.put o.dst v) w')->Wp i K a w):
  ∀(g:Nat) (f:Array Bool) (sL:AS) (a:Act) (w:World),f.size=ops.size->AP ops (fun j=>f.getD j true)->((List.range ops.size).filter fun j=>!f.getD j true).length<=g->cw P items ow ops (lw ops.size fun j=>f.getD j true) s=some sL->R (fun j=>f.getD j true) sL a w->
   pF ops Qn Wp g f a w:=by
 have A: ∀(f:Array Bool) (sL:AS) (a:Act) (w:World),(∀j,j<ops.size->f.getD j true=true)->cw P items ow ops (lw ops.size fun j=>f.getD j true) s=some sL->R (fun j=>f.getD j true) sL a w->Qn a w:=fun f sL a w m u C=>by
  unfold lw at u;rw[ac1.2 (fun j X=>m j (aaK.1 X)),hF]at u;injection u with u
  subst u;exact hQ _ a w m C
 have t: ∀f:Array Bool,f.size=ops.size->Region.ready .any ops f=[]-> ∀j,j<ops.size->f.getD j true=true:=fun f x C=>by
  rcases pp (n:=ops.size) (p:=fun j=>f.getD j true)with m|⟨i,J,Z,Y⟩
  ·exact m
  exfalso;have:i∈Region.ready .any ops f:=mem_ready.2 ⟨Z,ops[i],by simp[J],fun e W U=>by
   have M:=(l5 V).1 i ops[i] (by simp[J]) e W U;have:=Y e.on M;have F:e.on<f.size:=by omega
   simp[F]at this⊢;exact this⟩
  rw[C]at this;cases this
 intro g
 induction g with
 |zero=>
  intro f sL a w x Q hm u C;have m: ∀j,j<ops.size->f.getD j true=true:=fun j X=>by
   cases aa:f.getD j true with
   |true=>rfl
   |false=>
    have:j∈(List.range ops.size).filter fun j=>!f.getD j true:=ad3.2 ⟨aaK.2 X,by rw[aa];rfl⟩
    have B:=abC.1 (Nat.le_zero.1 hm);rw[B]at this;simp at this
  refine⟨?_,A f sL a w m u C⟩;cases H:Region.ready .any ops f with
  |nil=>rfl
  |cons i l=>
   exfalso;have J:i∈Region.ready .any ops f:=by rw[H];simp
   obtain⟨B,o,L,_⟩:=mem_ready.1 J;rw[m i (aan.1 L).1]at B;cases B
 |succ g ih=>
  intro f sL a w x Q hm u C;refine⟨fun H=>A f sL a w (t f x H) u C,fun i J=>?_⟩;obtain⟨B,o,L,E⟩:=mem_ready.1 J;have G:i<ops.size:=(aan.1 L).1;have q:(fun j=>(f.setIfInBounds i true).getD j true)=cq (fun j=>f.getD j true) i:=by
   funext j;by_cases r:j=i
   ·subst r;simp[cq,x,G]
   rw[getD_set_ne true (abD r)];simp[cq,r]
  have D:AP ops (cq (fun j=>f.getD j true) i):=A7 Q fun o' z e W U=>by
   rw[L]at z;injection z with z
   subst z;have T:=E e W U;have F:e.on<f.size:=by
    rcases acO e.on f.size with h|h
    ·exact h
    simp[Array.getElem?_eq_none h]at T
   simp[F]at T⊢;exact T
  obtain⟨O,N⟩:=Qa hS V hl hF _ (cq (fun j=>f.getD j true) i) (aaq _) D;obtain⟨sm,S,k2⟩:=yg hS V Q G B hl N;rw[u]at S;injection S with S
  subst S;unfold de at k2;rw[L]at k2;have y:((List.range ops.size).filter fun j=>!(f.setIfInBounds i true).getD j true).length<=g:=by
   have e0:((List.range ops.size).filter fun j=>!(f.setIfInBounds i true).getD j true)=lw ops.size fun j=>!cq (fun j=>f.getD j true) i j:=by rw[<- q];rfl
   rw[e0];obtain⟨e1,e2⟩:=tK G (fun j=>!cq (fun j=>f.getD j true) i j) (by simp[cq]);have e3:lw ops.size (cq (fun j=>!cq (fun j=>f.getD j true) i j) i)=(List.range ops.size).filter fun j=>!f.getD j true:=acQ fun j _=>by
    by_cases r:j=i
    ·subst r;simp only[cq,beq_self_eq_true,Bool.true_or,aek];rw[B];rfl
    have:(j==i)=false:=by simpa using r
    simp only[cq,this,adK]
   have ad:((List.range ops.size).filter fun j=>!f.getD j true).length=(lw ops.size fun j=>!cq (fun j=>f.getD j true) i j).length+1:=by
    rw[<- e3,e2,e1];simp;omega
   omega
  have ac:=I (fun j=>f.getD j true) i o sL O a w (pF ops Qn Wp g (f.setIfInBounds i true)) L B ⟨Q,D,u⟩ k2 C (fun v w' ab=>ih (f.setIfInBounds i true) O _ _ (by simpa using x) (by rw[q];exact D) y (by rw[q];exact N) (by rw[q];exact ab));exact ac
theorem mA (B:Kg P sep ops) (C:bX sep ops=true) {Q:Exit->Act->World->Prop} (R:(Nat->Bool)->AS->Act->World->Prop) (D:Ip sep s) (z:cw P items ow ops (List.range ops.size) s=some b) (A: ∀p a w,(∀j,j<ops.size->p j=true)->R p b a w->Q .normal a w) (h: ∀(p:Nat->Bool) (i:Nat) (o:Oper) (c l:AS) (a:Act) (w:World) (K:Act->World->Prop),ops[i]?=some o->p i=false->AP ops p/\AP ops (cq p i)/\cw P items ow ops (lw ops.size p) s=some c->aS P items ow ops i o c=some l->R p c a w->(∀v y,R (cq p i) l (a.put o.dst v) y->K (a.put o.dst v) y)->if Region.wanted o (yielded ops a.tmps)then o.wp P a w K Q else K (a.put o.dst undef) w):
  ∀(f:Nat) (e:Array Bool) (sL:AS) (a:Act) (w:World),e.size=ops.size->AP ops (fun j=>e.getD j true)->((List.range ops.size).filter fun j=>!e.getD j true).length<=f->cw P items ow ops (lw ops.size fun j=>e.getD j true) s=some sL->R (fun j=>e.getD j true) sL a w->
   wpAny P .any ops Q f e a w:=fun f e sL a w m n q r t=>by
 rw[<- C5];refine mB B C R D z A (fun p i o c l a w K x m n q r t=>?_) f e sL a w m n q r t;have g:=h p i o c l a w K x m n q r t;unfold wpOp;rw[x];simp only;split at g
 ·rename_i u;rw[if_pos u];exact .inl g
 rename_i u;rw[if_neg u];exact g
theorem Kx (o:gP P items) (r:Kg P sep ops) (t:bX sep ops=true) {X:Nat->Prop} {Q:Exit->Act->World->Prop} (u:Ip sep s) (n:cw P items ow ops (List.range ops.size) s=some b) (q: ∀a f,da w e X b a f->Q .normal a f):
  ∀(l:Nat) (g:Array Bool) (sL:AS) (a:Act) (f:World),g.size=ops.size->AP ops (fun j=>g.getD j true)->((List.range ops.size).filter fun j=>!g.getD j true).length<=l->cw P items ow ops (lw ops.size fun j=>g.getD j true) s=some sL->da w e X sL a f->
   wpAny P .any ops Q l g a f:=
 mA r t (fun _ c a f=>da w e X c a f) u n (fun _ a f _ m=>q a f m) (fun _ _ _ _ _ _ _ _ _ _ _ h m p=>iZ (Q:=Q) o m h p)
theorem oK (A:P.follows .mixedOrders=true) (items:List (ao P)) (ow:List Nat) {id:Nat} (m:bX sep ops=true) (F: ∀x∈sep,ir P x.2.2≠some 1) (E:CG sep s) (h:aT P (items.map ao.a) ow (aJ ops ops.toList 0) (some s) (c .normal)):bo P (.region id ops true) c s:=by
 obtain⟨p,v,y⟩:=aO P (items.map ao.a) ow ops ops.toList 0 s (c .normal) h;intro q O X a w r;refine wp_region_any A ?_;have z:cw P (items.map ao.a) ow ops (List.range ops.size) s=some p:=by
  rw[aax];have:=fA (P:=P) (items:=items.map ao.a) (ow:=ow) ops.toList 0 s (fun j o g=>by simpa using g);rw[v]at this;simpa using this.symm
 have l:da q O X s a {w with drawn:=w.drawn+1}:=by
  obtain⟨G,H,t,f,b⟩:=r;have e:Ext w {w with drawn:=w.drawn+1}:=⟨rfl,rfl,rfl,aaq _,fun _ _=>rfl⟩;have b:aX X t s a w:=b;exact⟨G,H,t,f.grow e,b.grow e⟩
 refine Kx (ao.ok items) (kB m F) m ⟨d9 r,E⟩ z (Q:=fun e u I=> ∃n,c e n/\da q O X n u I) (fun a w D=>⟨p,y,D⟩) ops.size (Array.replicate ops.size false) s a _ (by simp) ?_ ?_ ?_ l
 ·intro j o B C;have g:j<ops.size:=(aan.1 B).1;simp[g]at C
 ·exact aaj (abT _ _) (by simp)
 have:lw ops.size (fun j=>(Array.replicate ops.size false).getD j true)=[]:=by
  unfold lw;rw[abN];intro j g;have:=aaK.1 g;simp[this]
 rw[this];rfl
theorem sM (f:P.follows .mixedOrders=true) (items:List (ao P)) (ow:List Nat) {id:Nat} (e:bX [] ops=true) (h: ∀K:AS->Prop,(∀b,bo P m c b->K b)->aT P (items.map ao.a) ow (aJ ops ops.toList 0) (some s) K):bo P (.seq (.region id ops true) m) c s:=
 ai (oK f items ow e (by simp) (fun x g=>by simp at g) (h _ fun _ h=>h))
theorem sK (f:P.follows .mixedOrders=true) (items:List (ao P)) (ow:List Nat) {id:Nat} (e:bX [] ops=true) (h: ∀K:AS->Prop,(∀b,c .normal b->K b)->aT P (items.map ao.a) ow (aJ ops ops.toList 0) (some s) K):bo P (.region id ops true) c s:=
 oK f items ow e (by simp) (fun x g=>by simp at g) (h _ fun _ h=>h)
theorem kp (f:P.follows .mixedOrders=true) {id:Nat} (e:bX [] g=true) (h: ∀K:AS->Prop,(∀b,bo P m c b->K b)->aT P [] [] (aJ g g.toList 0) (some s) K):bo P (.seq (.region id g true) m) c s:=sM f [] [] e h
theorem Fp (f:P.follows .mixedOrders=true) {id:Nat} (e:bX [] g=true) (h: ∀K:AS->Prop,(∀b,c .normal b->K b)->aT P [] [] (aJ g g.toList 0) (some s) K):bo P (.region id g true) c s:=sK f [] [] e h
theorem wj (sep:List (Nat×Nat×Nat)) (f:P.follows .mixedOrders=true) (items:List (ao P)) (ow:List Nat) {id:Nat} (e:bX sep ops=true) (j: ∀x∈sep,ir P x.2.2≠some 1) (g:CG sep s) (h: ∀K:AS->Prop,(∀b,bo P m c b->K b)->aT P (items.map ao.a) ow (aJ ops ops.toList 0) (some s) K):bo P (.seq (.region id ops true) m) c s:=
 ai (oK f items ow e j g (h _ fun _ h=>h))
end
end
section
def Fe:PV->PV
 | .raw (.slice none 0 0)=> .sl []
 |x=>x
def E6:AV->AV
 | .p x=> .p (Fe x)
 |x=>x
def zO (o:OObj):OObj:={o with elems:=o.elems.map (List.map E6)}
theorem UK {x:PV} (h:bQ e w x l):bQ e w (Fe x) l:=by
 unfold Fe;split
 ·cases h;exact .nil none 0
 exact h
theorem UJ {H:OH} {x:AV} (h:x.rel o H e w l):(E6 x).rel o H e w l:=by
 cases x with
 |p x=>exact UK h
 |sl a r b len=>exact h
 |ptr a r i j=>exact h
 |fn=>exact h
 |junk=>exact h
section
variable {H:OH} {d:Nat}
def zH (H:OH) (d:Nat):OH:=aw H d ((H d).map zO)
theorem tQ {a:Nat} (h:(zH H d a)[n]?=some f): ∃b,(H a)[n]?=some b/\((a=d/\f=zO b)\/f=b):=by
 unfold zH at h;by_cases c:a=d
 ·subst c;rw[aM,u9]at h;obtain⟨b,e,g⟩:=u6.1 h;exact⟨b,e,.inl ⟨rfl,g.symm⟩⟩
 rw[aD c]at h;exact⟨f,h,.inr rfl⟩
theorem Rq {a:Nat} (h:(H a)[n]?=some f): ∃b,(zH H d a)[n]?=some b/\b.es=f.es/\b.elems.length=f.elems.length:=by
 unfold zH;by_cases c:a=d
 ·subst c;exact⟨zO f,by rw[aM,u9,h];rfl,rfl,by simp[zO]⟩
 exact⟨f,by rw[aD c];exact h,rfl,rfl⟩
theorem Vs (X:Nat->Prop) (l:Rho):Xo X l (zH H d)=Xo X l H:=by
 funext b;apply propext;constructor
 ·rintro(h|⟨a,r,o,c,f,g⟩)
  ·exact .inl h
  obtain⟨j,e,_⟩:=tQ f;exact .inr ⟨a,r,j,c,e,g⟩
 rintro(h|⟨a,r,o,c,f,g⟩)
 ·exact .inl h
 obtain⟨j,e,_⟩:=Rq (d:=d) f;exact .inr ⟨a,r,j,c,e,g⟩
theorem E7 {x:AV} (h:x.rel o H e w l):x.rel o (zH H d) e w l:=by
 refine qH (fun x l z h=>?_) x l h;cases x with
 |fn=>cases z
 |p x=>exact h
 |junk=>trivial
 |sl a r A len=>
  obtain⟨f,n,s,t⟩:=h;obtain⟨q,g,m,u⟩:=Rq (d:=d) n;exact⟨q,g,by omega,by rw[m];exact t⟩
 |ptr a r i j=>
  obtain⟨f,b,c,n,s,t,y⟩:=h;obtain⟨q,g,m,u⟩:=Rq (d:=d) n;exact⟨q,b,c,g,s,by omega,by rw[m];exact y⟩
theorem Zj (h:q.rel o H e w l):q.rel o (zH H d) e w l:=by
 have agg: ∀{m:List AV} {l:Value},bI o H e w m l->bI o (zH H d) e w m l:=fun{m l} ⟨vs,n,p,r⟩=>
  ⟨vs,n,p,fun j x s=>by obtain⟨u,y,z,B⟩:=r j x s;exact⟨u,y,z,E7 B⟩⟩
 cases q with
 |one x=>exact E7 (x:=x) h
 |agg m=>exact agg h
 |fn f m=>obtain⟨u,n,p⟩:=h;exact⟨u,agg n,p⟩
 |tup C=>
  obtain⟨vs,n,p,r⟩:=h;refine⟨vs,n,p,fun j b m A=>?_⟩;obtain⟨u,y,z⟩:=r j b m A;refine⟨u,y,?_⟩;rcases z with⟨c,g⟩|⟨c,x,s,g⟩
  ·exact .inl ⟨c,agg g⟩
  exact .inr ⟨c,x,s,E7 g⟩
theorem Rr {a:Nat} (h:objRel o H e w a n f):objRel o (zH H d) e w a n (zO f)/\objRel o (zH H d) e w a n f:=by
 obtain⟨I,J,m⟩:=h;refine⟨⟨fun g K=>?_,J,?_⟩,⟨I,J,?_⟩⟩
 ·simp only[zO,aai]at K;obtain⟨u,p,rfl⟩:=K;simp only[aa0,zO];exact I u p
 ·cases l:o a n with
  |none=>rw[l]at m;simp only at m⊢;simp[zO,m]
  |some t=>
   obtain⟨b,c⟩:=t;rw[l]at m;obtain⟨cells,y,z,A,B,C⟩:=m;refine⟨cells,y,z,by simpa[zO] using A,B,fun i g j x q s=>?_⟩;simp only[zO,u9]at q;obtain⟨u,p,rfl⟩:=u6.1 q;simp only[u9]at s;obtain⟨L,D,rfl⟩:=u6.1 s;obtain⟨v,E,F,G⟩:=C i u j L p D;exact⟨v,E,F,UJ (E7 G)⟩
 cases l:o a n with
 |none=>rw[l]at m;exact m
 |some t=>
  obtain⟨b,c⟩:=t;rw[l]at m;obtain⟨cells,y,z,A,B,C⟩:=m;refine⟨cells,y,z,A,B,fun i g j x q s=>?_⟩;obtain⟨v,E,F,G⟩:=C i g j x q s;exact⟨v,E,F,E7 G⟩
end
theorem gQ (d:Nat):bD s ⟨s.tmps,zH s.H d⟩:=by
 rintro P O X a w ⟨J,A,l,f,B⟩;refine⟨J,A,l,⟨f.keep,fun a r o h=>?_,fun a r F L o n b c G h z q u=>?_,fun a r o b c h q=>?_,f.bar,fun a r o h=>?_⟩,fun t x m=>?_⟩
 ·obtain⟨n,g,j⟩:=tQ h;show objRel l (zH s.H d) (Xo X l (zH s.H d)) w a r o;rw[Vs];rcases j with⟨_,rfl⟩|rfl
  ·exact(Rr (f.objs a r n g)).1
  exact(Rr (f.objs a r o g)).2
 ·obtain⟨p,g,_⟩:=tQ h;obtain⟨K,j,_⟩:=tQ z;exact f.inj a r F L p K b c G g j q u
 ·obtain⟨p,g,_⟩:=tQ h;exact f.old a r p b c g q
 ·obtain⟨n,g,j⟩:=tQ h;have:=f.self a r n g;rcases j with⟨_,rfl⟩|rfl
  ·intro e D x m;simp only[zO,aai]at D;obtain⟨I,y,rfl⟩:=D;simp only[aai]at m;obtain⟨E,C,rfl⟩:=m;have:=this I y E C;cases E<;>first|exact this|trivial
  exact this
 obtain⟨v,M,N⟩:=B t x m;refine⟨v,M,?_⟩;show x.rel l (zH s.H d) (Xo X l (zH s.H d)) w v;rw[Vs];exact Zj N
theorem R3 (k:Nat) (m:s.tmps[k]?=some (.raw (.slice none 0 0))):bD s ⟨s.tmps.set k (.one (.p (.sl []))),s.H⟩:=by
 rintro r O X a w ⟨o,j,n,c,f⟩;refine⟨o,by simpa using j,n,c,fun t x b=>?_⟩;by_cases e:t=k
 ·subst e;obtain⟨v,q,l⟩:=f t _ m;have g:=(aaf.1 m).1;rw[aa2 g]at b;injection b with b
  subst b;have l:bQ (Xo X n s.H) w (.raw (.slice none 0 0)) v:=l;cases l;exact⟨_,q,bQ.nil none 0⟩
 rw[aaI (fun h=>e h.symm)]at b;exact f t x b
end
section
def sw (p q r:Nat):Nat:=if r=p then q else if r=q then p else r
theorem Qy (p q r:Nat):sw p q (sw p q r)=r:=by
 unfold sw;by_cases c:r=p
 ·subst c;by_cases b:q=r<;>simp[b]
 by_cases b:r=q
 ·subst b;simp[c]
 simp[c,b]
def OA (a p q b r:Nat):Nat:=if b=a then sw p q r else r
theorem Jd (a p q b r:Nat):OA a p q b (OA a p q b r)=r:=by
 unfold OA;by_cases h:b=a<;>simp[h,Qy]
def fY (P:Nat->Nat->Nat×Nat):AV->AV
 | .sl b r c len=> .sl (P b r).1 (P b r).2 c len
 | .ptr b r i j=> .ptr (P b r).1 (P b r).2 i j
 | .fn f b e=>match e with
  |[]=> .junk
  |q::l=>if(q::l).all (fun x=>(P b x.1).1==(P b q.1).1)then .fn f (P b q.1).1 ((q::l).map fun x=>((P b x.1).2,x.2))else .junk
 |x=>x
theorem O3 (P:Nat->Nat->Nat×Nat):pm (fY P):=fun f b e=>by
 cases e with
 |nil=>exact .inl rfl
 |cons q l=>
  by_cases h:(q::l).all (fun x=>(P b x.1).1==(P b q.1).1)=true
  ·refine .inr ⟨_,_,if_pos h,by simp,fun n x c=>⟨_,by rw[u9,c];rfl,?_⟩⟩;simp only[aah,beq_iff_eq]at h;simp only[fY];rw[h x (u5 c)]
  exact .inl (if_neg h)
def mW (P:Nat->Nat->Nat×Nat):TV->TV
 | .one x=> .one (fY P x)
 | .agg b=> .agg (b.map (fY P))
 | .fn f b=> .fn f (b.map (fY P))
 | .tup c=> .tup (c.map fun t=>(t.1,t.2.map (fY P)))
def sH (P:Nat->Nat->Nat×Nat) (o:OObj):OObj:={o with elems:=o.elems.map (List.map (fY P))}
open Classical in
theorem CL (P:Nat->Nat->Nat×Nat) (G:OH) (S: ∀(b r:Nat) (o:OObj),(s.H b)[r]?=some o->(G (P b r).1)[(P b r).2]?=some (sH P o)) (L: ∀(b r:Nat) (g:OObj),(G b)[r]?=some g-> ∃(A B:Nat) (o:OObj),(s.H A)[B]?=some o/\g=sH P o/\P A B=(b,r)) (ac: ∀(b r N r':Nat) (o g:OObj),(s.H b)[r]?=some o->(s.H N)[r']?=some g->P b r=P N r'->b=N/\r=r') (af: ∀b r,(P b r).1<=4999->b<=4999) (T: ∀(b r:Nat) (g:OObj),(G b)[r]?=some g->selfO b g):bD s ⟨s.tmps.map (mW P),G⟩:=by
 rintro w0 O X av w ⟨h1,al,M,m,an⟩
 let n:Rho:=fun b r=>if h: ∃p:Nat×Nat,(∃o,(s.H p.1)[p.2]?=some o)/\P p.1 p.2=(b,r)then M h.choose.1 h.choose.2 else none
 have F: ∀(b r:Nat) (o:OObj),(s.H b)[r]?=some o->n (P b r).1 (P b r).2=M b r:=fun b r o D=>by
  have h: ∃p:Nat×Nat,(∃o,(s.H p.1)[p.2]?=some o)/\P p.1 p.2=((P b r).1,(P b r).2):=⟨(b,r),⟨o,D⟩,rfl⟩;show(if h: ∃p:Nat×Nat,(∃o,(s.H p.1)[p.2]?=some o)/\P p.1 p.2=((P b r).1,(P b r).2)then M h.choose.1 h.choose.2 else none)=_;rw[dif_pos h];obtain⟨⟨o2,e⟩,C⟩:=h.choose_spec;obtain⟨W,Z⟩:=ac _ _ b r o2 o e D C;rw[W,Z]
 have aa:Xo X n G=Xo X M s.H:=by
  funext b;apply propext;constructor
  ·rintro(h|⟨x,r,o,c,e,C⟩)
   ·exact .inl h
   obtain⟨A,B,g,l,_,g5⟩:=L x r o e;have:=F A B g l;rw[g5]at this;exact .inr ⟨A,B,g,c,l,this.symm.trans C⟩
  rintro(h|⟨x,r,o,c,e,C⟩)
  ·exact .inl h
  exact .inr ⟨_,_,_,c,S x r o e,(F x r o e).trans C⟩
 have I: ∀(Y:Nat->Prop) x v,AV.rel M s.H Y w x v->AV.rel n G Y w (fY P x) v:=fun Y=>gk (O3 P) fun x v hn h=>by
  cases x with
  |fn=>cases hn
  |p x=>exact h
  |junk=>trivial
  |sl b r a0 len=>
   obtain⟨o,e,C,l⟩:=h;refine⟨_,S b r o e,by simpa[sH] using C,?_⟩;rw[F b r o e];rcases l with l|⟨q,c,cap,k1,k2,k3,k4⟩
   ·exact .inl l
   exact .inr ⟨q,c,cap,k1,k2,k3,fun hl=>k4 (af b r hl)⟩
  |ptr b r i j=>
   obtain⟨o,N,c,e,C,l,Q⟩:=h;exact⟨_,N,c,S b r o e,by rw[F b r o e];exact C,by simpa[sH] using l,Q⟩
 have E: ∀(Y:Nat->Prop) K v,bI M s.H Y w K v->bI n G Y w (K.map (fY P)) v:=fun Y K v ⟨vs,e,C,l⟩=>by
  refine⟨vs,e,by simpa using C,fun j x hx=>?_⟩;rw[u9]at hx;obtain⟨y,hy,rfl⟩:=u6.1 hx;obtain⟨u,u1,U,u3⟩:=l j y hy;exact⟨u,u1,U,I Y y u u3⟩
 have J: ∀(b r:Nat) (g:OObj),(G b)[r]?=some g-> ∃(A B:Nat) (o:OObj),(s.H A)[B]?=some o/\g=sH P o/\P A B=(b,r)/\n b r=M A B:=fun b r g D=>by
  obtain⟨A,B,o,e,C,l⟩:=L b r g D;have:=F A B o e;rw[l]at this;exact⟨A,B,o,e,C,l,this⟩
 refine⟨h1,by simpa using al,n,⟨m.keep,fun b r g D=>?_,fun b r N r' o g x c c' D ag hb ab=>?_,fun b r o x c D hb=>?_,m.bar,fun b r g D=>?_⟩,fun t x hx=>?_⟩
 ·obtain⟨A,B,o,e,rfl,_,Q⟩:=J b r g D;have ah:=m.objs _ _ o e;rw[aa];obtain⟨q1,q2,q3⟩:=ah;refine⟨fun z he=>?_,q2,?_⟩
  ·simp only[sH,aai]at he;obtain⟨e',R,rfl⟩:=he;simp only[aa0,sH];exact q1 e' R
  rw[Q];cases hr:M A B with
  |none=>rw[hr]at q3;simp only at q3⊢;simp[sH,q3]
  |some bc=>
   obtain⟨b2,c⟩:=bc;rw[hr]at q3;obtain⟨cells,p1,p2,p3,p4,p5⟩:=q3;refine⟨cells,p1,p2,by simpa[sH] using p3,p4,fun i z j x hi hj=>?_⟩;simp only[sH,u9]at hi;obtain⟨e',R,rfl⟩:=u6.1 hi;simp only[u9]at hj;obtain⟨x',ap,rfl⟩:=u6.1 hj;obtain⟨v,v1,V,v3⟩:=p5 i e' j x' R ap;exact⟨v,v1,V,I _ _ _ v3⟩
 ·obtain⟨A,B,o1,e,_,l,Q⟩:=J b r o D;obtain⟨b1,r1,o2,k1,_,k3,k4⟩:=J N r' g ag;rw[Q]at hb;rw[k4]at ab;obtain⟨W,Z⟩:=m.inj _ _ _ _ o1 o2 x c c' e k1 hb ab;subst W Z;rw[l]at k3;injection k3 with W Z
  exact⟨W,Z⟩
 ·obtain⟨A,B,o1,e,_,_,Q⟩:=J b r o D;rw[Q]at hb;exact m.old _ _ o1 x c e hb
 ·exact T b r g D
 simp only[u9]at hx;obtain⟨y,hy,rfl⟩:=u6.1 hx;obtain⟨v,v1,V⟩:=an t y hy;refine⟨v,v1,?_⟩;show TV.rel n G (Xo X n G) w (mW P y) v;rw[aa];cases y with
 |one x=>exact I _ x v V
 |agg K=>exact E _ K v V
 |fn f K=>obtain⟨u,h1,h2⟩:=V;exact⟨u,E _ K u h1,h2⟩
 |tup ts=>
  obtain⟨vs,e,C,l⟩:=V;refine⟨vs,e,by simpa using C,fun j c K hj=>?_⟩;rw[u9]at hj;obtain⟨z,hz,ad⟩:=u6.1 hj;obtain⟨c',ae⟩:=z;simp at ad;obtain⟨rfl,rfl⟩:=ad;obtain⟨u,u1,U⟩:=l j c' ae hz;refine⟨u,u1,?_⟩;rcases U with⟨U,u3⟩|⟨U,q',rfl,u4⟩
  ·exact .inl ⟨U,E _ _ _ u3⟩
  exact .inr ⟨U,_,rfl,I _ _ _ u4⟩
theorem By {g:AV->AV} {l:List (List AV)} (h: ∀e∈l,∀z∈e,g z=z):l.map (List.map g)=l:=by
 have:l.map (List.map g)=l.map id:=aaA fun e b=>by
  have:e.map g=e.map id:=aaA fun z c=>h e b z c
  rw[this];simp
 rw[this];simp
section
variable {P:Nat->Nat->Nat×Nat} {b:Nat}
theorem Tv (h: ∀r,P b r=(b,r)) (c:bs b p):fY P p=p:=by
 cases p with
 |sl x r g len=>have c:x=b:=c;subst c;simp[fY,h]
 |ptr x r i j=>have c:x=b:=c;subst c;simp[fY,h]
 |fn f x m=>
  obtain⟨c,e⟩:=c;subst c;cases m with
  |nil=>exact absurd rfl e
  |cons q l=>simp[fY,h]
 |_=>rfl
theorem GX (h: ∀r,P b r=(b,r)) (g:selfO b f):sH P f=f:=by
 have:f.elems.map (List.map (fY P))=f.elems:=By fun e c z j=>Tv h (g e c z j)
 unfold sH;rw[this]
theorem xP (h:dS f):sH P f=f:=by
 have:f.elems.map (List.map (fY P))=f.elems:=By fun e c z g=>by
  have:=h e c z g;cases z<;>first|rfl|cases this
 unfold sH;rw[this]
theorem LH {d:Nat} (h: ∀r,(P b r).1=d) (c:bs b p):bs d (fY P p):=by
 cases p with
 |sl y r g len=>have c:y=b:=c;subst c;exact h r
 |ptr y r i j=>have c:y=b:=c;subst c;exact h r
 |fn f y m=>
  obtain⟨c,e⟩:=c;subst c;cases m with
  |nil=>exact absurd rfl e
  |cons q l=>simp[fY,h,bs]
 |_=>trivial
theorem Ed {d:Nat} (h: ∀r,(P b r).1=d) (m:selfO b f):selfO d (sH P f):=fun e j x n=>by
 simp only[sH,aai]at j;obtain⟨l,c,rfl⟩:=j;obtain⟨p,g,rfl⟩:=aai.1 n;exact LH h (m l c p g)
end
abbrev T9 (a p q b r:Nat):Nat×Nat:=(b,OA a p q b r)
abbrev Zc (a p q:Nat):AV->AV:=fY (T9 a p q)
abbrev XA (a p q:Nat):TV->TV:=mW (T9 a p q)
abbrev Zd (a p q:Nat):OObj->OObj:=sH (T9 a p q)
theorem It (a p q:Nat) (F:List OObj) (m: ∀r:Nat,F[r]?=((s.H a)[sw p q r]?).map (Zd a p q)):bD s ⟨s.tmps.map (XA a p q),aw s.H a F⟩:=by
 intro B O X g w t;obtain⟨D,z,I,f,A⟩:=id t;have hid: ∀b,b≠a-> ∀r,T9 a p q b r=(b,r):=fun b e r=>by simp[T9,OA,e]
 refine CL (T9 a p q) _ (fun b r o c=>?_) (fun b r o c=>?_) (fun b r C G o E c y x=>?_) (fun b r h=>h) (fun b r o c=>?_) B O X g w t
 ·by_cases e:b=a
  ·subst e;show(aw s.H b F b)[OA b p q b r]?=_;rw[aM,OA,if_pos rfl,m,Qy,c];rfl
  rw[hid b e,GX (hid b e) (f.self b r o c)];show(aw s.H a F b)[r]?=_;rw[aD e];exact c
 ·by_cases e:b=a
  ·subst e;rw[aM,m]at c;obtain⟨n,j,l⟩:=u6.1 c;exact⟨b,sw p q r,n,j,l.symm,by simp[T9,OA,Qy]⟩
  rw[aD e]at c;exact⟨b,r,o,c,(GX (hid b e) (f.self b r o c)).symm,hid b e r⟩
 ·injection x with u v
  subst u;exact⟨rfl,by rw[<- Jd a p q b r,v,Jd]⟩
 by_cases e:b=a
 ·subst e;rw[aM,m]at c;obtain⟨n,j,l⟩:=u6.1 c;subst l;exact Ed (fun _=>rfl) (f.self b _ n j)
 rw[aD e]at c;exact f.self b r o c
def pG (a d m:Nat) (b r:Nat):Nat×Nat:=if b=a then(d,m+r)else(b,r)
theorem VZ {a d b:Nat} (h:b≠a) (r:Nat):pG a d n b r=(b,r):=if_neg h
theorem GW {a d x:Nat} (b:x≠a) (h:selfO x f):sH (pG a d n) f=f:=GX (VZ b) h
theorem dK {s:AS} (a d:Nat) (q:d≠a) (F:a<=4999):bD s ⟨s.tmps.map (mW (pG a d (s.H d).length)),aw (aw s.H a []) d (s.H d++(s.H a).map (sH (pG a d (s.H d).length)))⟩:=by
 intro L O X A w z;obtain⟨M,G,P,e,I⟩:=id z;generalize N:(s.H d).length=m;have n:aw (aw s.H a []) d (s.H d++(s.H a).map (sH (pG a d m))) d=s.H d++(s.H a).map (sH (pG a d m)):=aM;have v:aw (aw s.H a []) d (s.H d++(s.H a).map (sH (pG a d m))) a=[]:=by rw[aD (abD q),aM]
 have p: ∀x,x≠d->x≠a->aw (aw s.H a []) d (s.H d++(s.H a).map (sH (pG a d m))) x=s.H x:=fun x h k=>by rw[aD h,aD k]
 refine CL (pG a d m) _ (fun b r o c=>?_) (fun b r o c=>?_) (fun b r E K o J c C l=>?_) (fun b r h=>?_) (fun b r o c=>?_) L O X A w z
 ·by_cases f:b=a
  ·subst f;simp only[pG,if_pos];rw[n,aap (by omega),u9,show m+r-(s.H d).length=r by omega,c];rfl
  rw[GW f (e.self b r o c)];simp only[pG,if_neg f];by_cases y:b=d
  ·subst y;rw[n,aal (aaf.1 c).1];exact c
  rw[p b y f];exact c
 ·by_cases f:b=d
  ·subst f;rw[n]at c;by_cases z:r<m
   ·rw[aal (by omega)]at c;exact⟨b,r,o,c,(GW q (e.self b r o c)).symm,if_neg q⟩
   rw[aap (by omega),u9]at c;obtain⟨D,t,rfl⟩:=u6.1 c;refine⟨a,r-(s.H b).length,D,t,rfl,?_⟩;simp only[pG,if_pos];rw[show m+(r-(s.H b).length)=r by omega]
  by_cases g:b=a
  ·subst g;rw[v]at c;simp at c
  rw[p b f g]at c;exact⟨b,r,o,c,(GW g (e.self b r o c)).symm,if_neg g⟩
 ·have lt: ∀(r:Nat) o,(s.H d)[r]?=some o->r<m:=fun r o h=>by have:=(aaf.1 h).1;omega
  unfold pG at l;by_cases f:b=a
  ·rw[if_pos f]at l;by_cases j:E=a
   ·rw[if_pos j]at l;injection l with _ l
    exact⟨f.trans j.symm,by omega⟩
   rw[if_neg j]at l;injection l with u B
   subst u;have:=lt K J C;omega
  rw[if_neg f]at l;by_cases j:E=a
  ·rw[if_pos j]at l;injection l with u B
   subst u;have:=lt r o c;omega
  rw[if_neg j]at l;injection l with u B
  exact⟨u,B⟩
 ·unfold pG at h;by_cases f:b=a
  ·rw[f];exact F
  rw[if_neg f]at h;exact h
 by_cases f:b=d
 ·subst f;rw[n]at c;by_cases z:r<m
  ·rw[aal (by omega)]at c;exact e.self b r o c
  rw[aap (by omega),u9]at c;obtain⟨D,t,rfl⟩:=u6.1 c;exact Ed (fun r=>by simp[pG]) (e.self a _ D t)
 by_cases g:b=a
 ·subst g;rw[v]at c;simp at c
 rw[p b f g]at c;exact e.self b r o c
abbrev ST (a e d:Nat):TV->TV:=mW (pG e d 1)∘mW (pG a d 0)
theorem lU (a e d:Nat) {oa oe:OObj} (r:s.H a=[oa]) (t:s.H e=[oe]) (c:s.H d=[]) (o:dS oa) (p:dS oe) (m:a≠e) (j:a<=4999) (n:e<=4999):
  bD s ⟨s.tmps.map (ST a e d),aw (aw (aw s.H a []) e []) d [oa,oe]⟩:=by
 have l:d≠a:=by rintro rfl;rw[r]at c;cases c
 have f:d≠e:=by rintro rfl;rw[t]at c;cases c
 have h:=dK (s:=s) a d l j;rw[c,r]at h;simp only[ab3,ab4,aaC,aaR,xP o]at h;have q:=dK (s:=⟨s.tmps.map (mW (pG a d 0)),aw (aw s.H a []) d [oa]⟩) e d f n;have u:aw (aw s.H a []) d [oa] d=[oa]:=aM;have v:aw (aw s.H a []) d [oa] e=[oe]:=by rw[aD (abD f),aD (abD m)];exact t
 have e:aw (aw (aw (aw s.H a []) d [oa]) e []) d [oa,oe]=aw (aw (aw s.H a []) e []) d [oa,oe]:=by
  funext x;by_cases g:x=d
  ·subst g;rw[aM,aM]
  rw[aD g,aD g];by_cases b:x=e
  ·subst b;rw[aM,aM]
  rw[aD b,aD b,aD g]
 simp only[u,v,aaG,ab3,aaC,aaR,xP p,acq,ab4,e]at q;rw[<- abn];exact h.trans q
theorem MV (a d:Nat) (g:s.H a=[f]) (e:dS f) (c:d≠a) (b:a<=4999):bD s ⟨s.tmps.map (mW (pG a d (s.H d).length)),aw (aw s.H a []) d (s.H d++[f])⟩:=by
 have h:=dK (s:=s) a d c b;rw[g]at h;simpa only[aaC,aaR,xP e] using h
end
section
section
variable {P:Program}
theorem mo {c:List (cB P)} (t:gP P c) {B:List Nat} {b:Array Oper} {x:World} {O X:Nat->Prop} {Q:Exit->Act->World->Prop} {e:List Nat}: ∀(l:List Oper) (k:Nat) (s f:AS) (a:Act) (w:World),(∀(j:Nat) o,l[j]?=some o->b[k+j]?=some o)->
  f7 P c B b (l.zipIdx k) s=some f->da x O X s a w->(∀q p,da x O X f q p->wpOps P b Q e q p)->wpOps P b Q (List.range' k l.length++e) a w
 |[],k,s,f,a,w,_,h,r,g=>by
  simp only[acw,f7]at h;injection h with h
  subst h;exact g a w r
 |o::l,k,s,f,a,w,u,h,r,g=>by
  simp only[abO,f7]at h;split at h
  ·rename_i C m;simp only[aaG,aa1,acq,wpOps];have z:b[k]?=some o:=by have:=u 0 o rfl;simpa using this
   rw[z];simp only;have:=iZ (Q:=Q) t r m (K:=wpOps P b Q (List.range' (k+1) l.length++e)) (fun v p A=>mo t l (k+1) C f _ _ (fun j o y=>by have:=u (j+1) o (by simpa using y);rwa[show k+(j+1)=k+1+j by omega]at this) h A g);split at this
   ·rename_i n;rw[if_pos n];exact .inl this
   rename_i n;rw[if_neg n];exact this
  cases h
theorem tW (m:Nat) (f:List (cB P)) (u:gP P f) (v:List Nat) {id:Nat} {t l:AS} (x:f7 P f v g ((g.toList.take m).zipIdx 0) s=some b) (D:bD b t) (y:f7 P f v g ((g.toList.drop m).zipIdx (g.toList.take m).length) t=some l) (z:c .normal l):bo P (.region id g false) c s:=fun F O X a w r=>by
 refine wp_region ?_;have q:g.size=(g.toList.take m).length+(g.toList.drop m).length:=by simp;omega
 rw[q,aax,<- abf,aaO];refine mo u (g.toList.take m) 0 s b a w (fun j o h=>?_) x r fun n p E=>?_
 ·rw[aaH]at h;split at h
  ·simpa using h
  cases h
 refine ic u (Q:=fun e n p=> ∃l,c e l/\da F O X l n p) (g.toList.drop m) _ t l n p (fun j o h=>?_) y (D _ _ _ _ _ E) (fun n p C=>⟨l,z,C⟩);rw[aaN]at h;have A:=(aaf.1 h).1;have B:(g.toList.take m).length=m:=by
  rw[abc];omega
 rw[B];simpa using h
theorem ii (b:Nat) (e:List (ao P)) (f:List Nat) {id:Nat} (v:s.tmps.length<=1000000) (w:b<=g.toList.length) (h: ∀K:AS->Prop,(∀n,(∃j,bD n j/\j.tmps.length<=1000000/\ ∀K:AS->Prop,(∀l,bo P m c l->K l)->aT P (e.map ao.a) f (aJ g (g.toList.drop b) b) (some j) K)->K n)->aT P (e.map ao.a) f (aJ g (g.toList.take b) 0) (some s) K):bo P (.seq (.region id g false) m) c s:=by
 obtain⟨n,o,j,t,r,p⟩:=aO P (e.map ao.a) f g _ 0 s _ (h _ fun _ h=>h);obtain⟨l,u,q⟩:=aO P (e.map ao.a) f g _ b j _ (p _ fun _ h=>h);refine ai (tW b _ (ao.ok e) f o t ?_ q);rwa[show(g.toList.take b).length=b by rw[abc];omega]
end
end
end Go.Proofs.YtalmoejhjceflaaGreat
