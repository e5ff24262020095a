/-
  Part 8 of a proof (walks and plain facts).
-/
import Derived.Test.YtalmoejhjceflaaGreatP06
set_option linter.all false
set_option maxRecDepth 100000
set_option maxHeartbeats 64000000
namespace Go.Proofs.YtalmoejhjceflaaGreat
open Go.RowKit
variable {s b:AS} {c:Exit->AS->Prop} {e:Nat->Prop} {n:Nat} {f:OObj} {g:Array Oper} {w:World} {h:Nat->Bool} {j:Oper} {l:Value} {m:Code} {o:Rho} {p:AV} {q:TV}
section
def Wj:Op->Bool
 | .store ..=>false
 | .call {callee:= .builtin .append,..}=>false
 |_=>true
theorem vK {P:Program} {op:Op} (h:Wj op=true): ∀e G,fD P e G op=none:=fun e G=>by
 cases op<;>simp only[fD]<;>try rfl
 case store=>cases h
 case call c=>
  obtain⟨callee,args,g⟩:=c;cases callee with
  |value f=>rfl
  |invoke r m=>rfl
  |builtin b=>cases b<;>first|rfl|cases h
def jo (acc:List Nat):List Edge->Nat
 |[]=>0
 |e::l=>if Region.binds .any e then 2^e.on|||(acc.getD e.on 0|||jo acc l)else jo acc l
def oB:List Oper->List Nat->List Nat
 |[],acc=>acc
 |o::l,acc=>oB l (acc++[jo acc o.after.toList])
def NB (b:List (Nat×Nat×Nat)) (c e:Oper):Bool:=match c.op,e.op with
 | .load _ (.tmp p),.store t (.tmp q) _=>b.contains (p,q,t)&&c.guard.isNone&&e.guard.isNone
 |_,_=>false
def rJ (f:List (Nat×Nat×Nat)) (e:Array Oper) (b c:Oper):Bool:=b.apart e c&&(oN b.op||oN c.op||(Wj b.op&&Wj c.op)||NB f b c)
def CX (c:List (Nat×Nat×Nat)) (b:Array Oper) (e:Oper) (m:Nat):List Oper->Nat->Bool
 |[],_=>true
 |oi::l,i=>(m.testBit i||rJ c b oi e)&&CX c b e m l (i+1)
def At (c:List (Nat×Nat×Nat)) (b:Array Oper) (A:List Nat):List Oper->Nat->Bool
 |[],_=>true
 |oj::l,j=>oj.after.all (fun e=>!Region.binds .any e||decide (e.on<j))&&CX c b oj (A.getD j 0) (b.toList.take j) 0&&At c b A l (j+1)
def bX (c:List (Nat×Nat×Nat)) (b:Array Oper):Bool:=At c b (oB b.toList []) b.toList 0&&b.toList.all fun o=>c.all fun x=>o.dst !=some x.1&&o.dst !=some x.2.1
def Bc (c:List (Nat×Nat×Nat)) (s:AS):Prop:= ∀x∈c,∀a r i j b g e f,s.tmps[x.1]?=some (.one (.ptr a r i j))->s.tmps[x.2.1]?=some (.one (.ptr b g e f))->b≠a
def F9 (b:List (Nat×Nat×Nat)) (s:AS):Prop:=kM s/\Bc b s
def Ih (P:Program) (b:List (Nat×Nat×Nat)) (c:Array Oper):Prop:=(∀x∈b,gK P x.2.2≠some 1)/\ ∀(j:Nat) o,c[j]?=some o-> ∀x∈b,o.dst≠some x.1/\o.dst≠some x.2.1
section
variable {ops:Array Oper} {sep:List (Nat×Nat×Nat)}
theorem xM: ∀(l:List Oper) (acc:List Nat),(oB l acc).length=acc.length+l.length/\(∀k,k<acc.length->(oB l acc)[k]?=acc[k]?)/\
  ∀(j:Nat) o,l[j]?=some o->(oB l acc)[acc.length+j]?=some (jo ((oB l acc).take (acc.length+j)) o.after.toList)
 |[],acc=>⟨by simp[oB],fun k _=>rfl,fun j o h=>by simp at h⟩
 |o::l,acc=>by
  obtain⟨f,e,g⟩:=xM l (acc++[jo acc o.after.toList]);simp only[oB];refine⟨by rw[f];simp;omega,fun k c=>by rw[e k (by simp;omega),XS c],fun j m b=>?_⟩;cases j with
  |zero=>
   simp at b;subst b;rw[YA,e acc.length (by simp)];have:(oB l (acc++[jo acc o.after.toList])).take acc.length=acc:=by
    apply X7;intro k;rw[Yl];split
    ·rename_i c;rw[e k (by simp;omega),XS c]
    rename_i c;rw[aag (by omega)]
   rw[this]
   simp
  |succ j=>
   simp at b;have:=g j m b;simp only[YJ,Ym,Zu]at this;rw[show acc.length+(0+1)+j=acc.length+(j+1) by omega]at this;exact this
theorem mN {acc:List Nat} {i:Nat}: ∀{l:List Edge},(jo acc l).testBit i=true-> ∃e∈l,Region.binds .any e=true/\(e.on=i\/(acc.getD e.on 0).testBit i=true)
 |[],h=>by simp[jo]at h
 |e::l,h=>by
  simp only[jo]at h;split at h
  ·rename_i g;simp only[Nat.testBit_or,ZJ,Nat.testBit_two_pow,decide_eq_true_eq]at h;rcases h with h|h|h
   ·exact⟨e,by simp,g,.inl h⟩
   ·exact⟨e,by simp,g,.inr h⟩
   obtain⟨b,c,f⟩:=mN h;exact⟨b,by simp[c],f⟩
  obtain⟨b,c,f⟩:=mN h;exact⟨b,by simp[c],f⟩
def y9 (ops:Array Oper) (p:Nat->Bool):Prop:= ∀(j:Nat) o,ops[j]?=some o->p j=true-> ∀e∈o.after,Region.binds .any e=true->p e.on=true
theorem lR (t:y9 ops h) {i:Nat}: ∀(n j:Nat),j<n->j<ops.size->h j=true->((oB ops.toList []).getD j 0).testBit i=true->h i=true:=by
 intro n
 induction n with
 |zero=>intro j b;omega
 |succ n u=>
  intro j _ f l c;obtain⟨v,_,m⟩:=xM ops.toList [];have s:ops.toList[j]?=some ops[j]:=by simp[f]
  have:=m j _ s;simp only[Zu,Yw]at this;rw[Yf,this,Y4]at c;obtain⟨e,q,o,b⟩:=mN c;have g:=t j ops[j] (by simp[f]) l e (by simpa using q) o;rcases b with rfl|b
  ·exact g
  rw[Yf,Yl]at b;split at b
  ·rename_i r;exact u e.on (by omega) (by omega) g (by rw[Yf];exact b)
  simp at b
theorem wm {f:Oper} {m:Nat}: ∀{l:List Oper} {b:Nat},CX sep ops f m l b=true-> ∀(k:Nat) c,l[k]?=some c->m.testBit (b+k)=true\/rJ sep ops c f=true
 |[],b,_,k,c,h=>by simp at h
 |o::l,b,h,k,c,e=>by
  simp only[CX,Yh,ZJ]at h;cases k with
  |zero=>simp at e;subst e;exact h.1
  |succ k=>
   simp at e;have:=wm h.2 k c e;rwa[show b+1+k=b+(k+1) by omega]at this
theorem nn {A:List Nat}: ∀{l:List Oper} {b:Nat},At sep ops A l b=true-> ∀(k:Nat) c,l[k]?=some c->(∀e∈c.after,Region.binds .any e=true->e.on<b+k)/\CX sep ops c (A.getD (b+k) 0) (ops.toList.take (b+k)) 0=true
 |[],b,_,k,c,h=>by simp at h
 |o::l,b,h,k,c,f=>by
  simp only[At,Yh]at h;cases k with
  |zero=>
   simp at f;subst f;refine⟨fun e j g=>?_,h.1.2⟩;have:=h.1.1;rw[Array.all_eq_true_iff_forall_mem]at this;have:=this e j;simpa[g] using this
  |succ k=>
   simp at f;have:=nn h.2 k c f;rwa[show b+1+k=b+(k+1) by omega]at this
theorem kU (h:bX sep ops=true):(∀(j:Nat) o,ops[j]?=some o-> ∀e∈o.after,Region.binds .any e=true->e.on<j)/\
  ∀(i j:Nat) b c,i<j->ops[i]?=some b->ops[j]?=some c->((oB ops.toList []).getD j 0).testBit i=true\/rJ sep ops b c=true:=by
 unfold bX at h;rw[Yh]at h
 replace h:=h.1
 refine⟨fun j o p e l g=>?_,fun i j b c f m n=>?_⟩
 ·have:=(nn h j o (by simpa using p)).1 e l g;simpa using this
 have:=(nn h j c (by simpa using n)).2;rw[Yw]at this;have:=wm this i b (by rw[Yl,if_pos f];simpa using m);rwa[Yw]at this
variable {P:Program} {items:List (dc P)} {ow:List Nat}
noncomputable def dF (P:Program) (items:List (dc P)) (ow:List Nat) (ops:Array Oper) (i:Nat) (s:AS):Option AS:=match ops[i]? with
 |some o=>aQ P items ow ops i o s
 |none=>none
noncomputable def db (P:Program) (items:List (dc P)) (ow:List Nat) (ops:Array Oper):List Nat->AS->Option AS
 |[],s=>some s
 |i::l,s=>(dF P items ow ops i s).bind (db P items ow ops l)
theorem iY (l m:List Nat) (s:AS):db P items ow ops (l++m) s=(db P items ow ops l s).bind (db P items ow ops m):=by
 induction l generalizing s with
 |nil=>rfl
 |cons i l b=>
  simp only[Z6,db];cases dF P items ow ops i s with
  |none=>rfl
  |some c=>exact b c
theorem kT (h:bX sep ops=true) (g: ∀x∈sep,gK P x.2.2≠some 1):Ih P sep ops:=⟨g,fun j o e x f=>by
 unfold bX at h;rw[Yh,XO]at h;have b:=h.2 o (by simpa using Array.mem_of_getElem? e);rw[XO]at b;have c:=b x f;simpa using c⟩
theorem Ao {s:AS} {d:Option Tmp} (n:Bc sep s) (m: ∀x∈sep,d≠some x.1/\d≠some x.2.1):Bc sep (s.put d q):=fun x g a r i j b u o p h l=>by
 rw[lg s d q x.1 (fun e f c=>(m x g).1 (by rw[f,c]))]at h;rw[lg s d q x.2.1 (fun e f c=>(m x g).2 (by rw[f,c]))]at l;exact n x g a r i j b u o p h l
theorem Cp {k:Nat->Nat->Bool} {a i j:Nat} (h:aM k q= .one (.ptr a n i j)):q= .one (.ptr a n i j):=by
 cases q with
 |one x=>cases x<;>simp only[aM,aL]at h<;>(try split at h)<;>simp_all
 |agg b=>cases h
 |fn f b=>cases h
 |tup c=>cases h
theorem Ml {h:List TV} {H l:OH} {k:Nat->Nat->Bool} (o:Bc sep ⟨h,H⟩):Bc sep ⟨h.map (aM k),l⟩:=fun x p a r i j b t q s f g=>by
 simp only[XK]at f g;obtain⟨t1,c,m⟩:=XI.1 f;obtain⟨t2,e,n⟩:=XI.1 g;rw[Cp m]at c;rw[Cp n]at e;exact o x p a r i j b t q s c e
theorem Cx (g:Ih P sep ops) {i:Nat} (n:ops[i]?=some j) (c:F9 sep s) (h:aQ P items ow ops i j s=some b):F9 sep b:=by
 refine⟨zl c.1 h,?_⟩;have f:=g.2 i j n;rw[bD]at h;obtain⟨out,_,h⟩:=X4.1 h;cases out with
 |val t=>simp only[bW]at h;injection h with h;subst h;exact Ao c.2 f
 |new t p l=>
  simp only[bW]at h;split at h
  ·rename_i e m;split at h
   ·injection h with h;subst h
    rw[<- m];exact Ao (s:=⟨s.tmps,_⟩) c.2 f
   cases h
  cases h
 |wr q=>simp only[bW]at h;injection h with h;subst h;exact Ao (Ml (H:=s.H) c.2) f
theorem JM (g:Ih P sep ops) {l:List Nat} (e:F9 sep s) (h:db P items ow ops l s=some b):F9 sep b:=by
 induction l generalizing s with
 |nil=>simp only[db]at h;injection h with h;subst h;exact e
 |cons i l m=>
  simp only[db]at h;obtain⟨n,c,f⟩:=X4.1 h;unfold dF at c;split at c
  ·rename_i o j;exact m (Cx g j e c) f
  cases c
theorem Jc (b:List TV):b.map (aM fun _ _=>false)=b:=by
 conv=>rhs;rw[<- Z1 b]
 exact Yc fun t _=>lW t
theorem Fw {t:TypeId} {m x:Operand} {q:DJ} (o:gK P t≠some 1) (h:fD P s.ev s.H (.store t m x)=some q): ∃b r i j F,s.ev m=some (.one (.ptr b r i j))/\q=⟨.undef,aw s.H b F,fun _ _=>false⟩:=by
 simp only[fD]at h;split at h
 ·rename_i a r i j n g l;have c:n≠1:=fun e=>o (by rw[l,e])
  split at h
  ·split at h
   ·split at h
    ·split at h
     ·split at h
      ·rename_i f;exact absurd f.1 c
      cases h
     split at h
     ·split at h
      ·rename_i f;exact absurd f.2.2.2.2.1 c
      cases h
     cases h
    ·split at h
     ·split at h
      ·rename_i f;exact absurd f.1 c
      cases h
     cases h
    ·split at h
     ·split at h
      ·injection h with h;exact⟨a,r,i,j,_,g,h.symm⟩
      cases h
     cases h
    cases h
   cases h
  cases h
 cases h
theorem NC (T:Ih P sep ops) {i:Nat} {v:Oper} {O:AS} (A:NB sep j v=true) (X:F9 sep s) (K:kw ops v j.dst) (L:kw ops j v.dst) (V: ∀k,j.dst=some k->v.dst≠some k) (m:aQ P items ow ops i j s=some b) (o:aQ P items ow ops n v b=some O): ∃Q,aQ P items ow ops n v s=some Q/\aQ P items ow ops i j Q=some O:=by
 unfold NB at A;split at A
 ·rename_i ty p t q x l E;simp only[Yh]at A;obtain⟨⟨D,G⟩,I⟩:=A;have D:(p,q,t)∈sep:=by simpa using D
  have G:j.guard=none:=by simpa using G
  have I:v.guard=none:=by simpa using I
  rw[bD]at m o;obtain⟨ui,B,m⟩:=X4.1 m;obtain⟨uj,u,o⟩:=X4.1 o;have R: ∀s,cu P items ow ops i j s=(bN P s.ev s.H j.op).map .val:=fun s=>by
   unfold cu gate kn;rw[G];simp only;rw[l];simp only[oN,xg,YD,if_false,if_true]
  rw[R]at B;obtain⟨tv,h,rfl⟩:=XI.1 B;simp only[bW]at m;injection m with m
  subst m;rw[ca K]at u;have g:=u;unfold cu gate kn at g;rw[I]at g;simp only at g;rw[E]at g;simp only[oN,xg,YD,if_false]at g;split at g
  ·rename_i qq N;injection g with g
   subst g;obtain⟨c,r',Y,j',F,U,rfl⟩:=Fw (T.1 _ D) N;simp only[bW]at o;injection o with o
   subst o;refine⟨_,by rw[bD,u];rfl,?_⟩;rw[bD,ca L,R];simp only[Jc];have e:bN P (AS.ev ⟨s.tmps,aw s.H c F⟩) (aw s.H c F) j.op=some tv:=by
    rw[<- h];refine(uX (fun y C=>?_) (fun y C tt w=>?_)).symm
    ·cases y<;>rfl
    rw[l]at C;have C:y= .tmp p:=by simpa[Op.operands] using C
    subst C;cases tt with
    |one z=>
     cases z with
     |ptr a r Z j0=>
      have:=X.2 _ D a r Z j0 c r' Y j' w U;exact ay (fun J=>this J.symm)
     |sl a r aa len=>simp only[l,bN,w]at h;cases h
     |p y=>trivial
     |junk=>trivial
     |fn=>simp only[l,bN,w]at h;cases h
    |agg S=>simp only[l,bN,w]at h;cases h
    |fn f S=>simp only[l,bN,w]at h;cases h
    |tup ts=>simp only[l,bN,w]at h;cases h
   rw[e];simp only[Yp,YH,bW];rw[fw _ _ _ (fun k W M=>V k M (by rw[W]))]
   congr 2
   cases j.dst<;>rfl
  split at g
  ·cases g
  simp only[b8,Fa]at g;cases g
 cases A
theorem JF (w:Ih P sep ops) {i:Nat} {l:Oper} {u:AS} (h:rJ sep ops j l=true) (t:F9 sep s) (q:aQ P items ow ops i j s=some b) (r:aQ P items ow ops n l b=some u):
  ∃v,aQ P items ow ops n l s=some v/\aQ P items ow ops i j v=some u:=by
 unfold rJ at h;simp only[Yh,ZJ]at h;obtain⟨x,c⟩:=h;obtain⟨m,o,p⟩:=Oper.apart_spec x;rcases c with c|c
 case inr=>exact NC w c t (fun e f=>m e f) (fun e f=>p e f) (fun k g=>o k g) q r
 refine J1 t.1 (fun e f=>m e f) (fun e f=>p e f) (fun k g=>o k g) ?_ q r;rcases c with(c|c)|c
 ·exact .inl c
 ·exact .inr (.inl c)
 exact .inr (.inr ⟨vK c.1,vK c.2⟩)
theorem Lq (m:Ih P sep ops) {i:Nat} {u:Oper} (n:ops[i]?=some u): ∀{l:List Nat} {s f:AS},F9 sep s->(∀j∈l,∃p,ops[j]?=some p/\rJ sep ops u p=true)->db P items ow ops (i::l) s=some f->
  ∃g,db P items ow ops l s=some g/\dF P items ow ops i g=some f
 |[],s,f,_,_,h=>by
  simp only[db]at h;obtain⟨B,e,b⟩:=X4.1 h;injection b with b
  subst b;exact⟨s,rfl,e⟩
 |j::l,s,f,t,r,h=>by
  simp only[db]at h;obtain⟨B,e,h⟩:=X4.1 h;obtain⟨C,b,w⟩:=X4.1 h;obtain⟨p,c,x⟩:=r j (by simp);unfold dF at e b;rw[n]at e;rw[c]at b;obtain⟨t1,q,v⟩:=JF m x t e b;have y:db P items ow ops (i::l) t1=some f:=by
   simp only[db,dF,n];rw[v];exact w
  obtain⟨g,z,A⟩:=Lq m n (Cx m c t q) (fun j o=>r j (by simp[o])) y;refine⟨g,?_,A⟩;simp only[db,dF,c];rw[q];exact z
def lk (n:Nat) (p:Nat->Bool):List Nat:=(List.range n).filter p
def cG (p:Nat->Bool) (i:Nat):Nat->Bool:=fun j=>j==i||p j
theorem rS {i:Nat} (l:i<n) (p:Nat->Bool) (g:p i=false):
  lk n p=(List.range i).filter p++(List.range' (i+1) (n-i-1)).filter p/\lk n (cG p i)=(List.range i).filter p++i::(List.range' (i+1) (n-i-1)).filter p:=by
 have h:List.range n=List.range i++i::List.range' (i+1) (n-i-1):=by
  have c:=Zg (s:=0) (m:=i) (n:=n-i-1+1);rw[show i+(n-i-1+1)=n by omega,Yw,YM]at c;rw[Ya,Ya];exact c.symm
 unfold lk;rw[h];simp only[abH,List.filter_cons,g];refine⟨by simp,?_⟩;have e:(List.range i).filter (cG p i)=(List.range i).filter p:=ZZ fun j b=>by
  have:j≠i:=by have:=Yv.1 b;omega
  simp[cG,this]
 have f:(List.range' (i+1) (n-i-1)).filter (cG p i)=(List.range' (i+1) (n-i-1)).filter p:=ZZ fun j b=>by
  have:j≠i:=by have:=(aaB.1 b).1;omega
  simp[cG,this]
 rw[e,f];simp[cG]
theorem wD (o:Ih P sep ops) (y:bX sep ops=true) (x:y9 ops h) {i:Nat} (q:i<ops.size) (t:h i=false) (C:F9 sep s) (c:db P items ow ops (lk ops.size (cG h i)) s=some b):
  ∃f,db P items ow ops (lk ops.size h) s=some f/\dF P items ow ops i f=some b:=by
 obtain⟨u,v⟩:=rS q h t;rw[v,iY]at c;obtain⟨F,n,w⟩:=X4.1 c;have r:ops[i]?=some ops[i]:=by simp[q]
 obtain⟨f,D,E⟩:=Lq o r (JM o C n) (fun j z=>by
  obtain⟨l,m⟩:=aat.1 z;obtain⟨A,B⟩:=aaB.1 l;have e:j<ops.size:=by omega
  refine⟨ops[j],by simp[e],?_⟩;rcases(kU y).2 i j ops[i] ops[j] (by omega) r (by simp[e])with g|g
  ·exact absurd (lR x (j+1) j (by omega) e m g) (by simp[t])
  exact g) w
 refine⟨f,?_,E⟩;rw[u,iY,n];exact D
theorem zz (m:y9 ops h) {i:Nat} (b: ∀o,ops[i]?=some o-> ∀e∈o.after,Region.binds .any e=true->h e.on=true):y9 ops (cG h i):=fun j o l n e g f=>by
 by_cases c:j=i
 ·subst c;simp[cG,b o l e g f]
 have:h j=true:=by simpa[cG,c] using n
 simp[cG,m j o l this e g f]
theorem oo {n:Nat} {p:Nat->Bool}:(∀j,j<n->p j=true)\/ ∃i,i<n/\p i=false/\ ∀j,j<i->p j=true:=by
 by_cases h: ∃i,i<n/\p i=false
 ·obtain⟨i,⟨c,e⟩,f⟩:=bo h;refine .inr ⟨i,c,e,fun j g=>?_⟩;cases b:p j with
  |true=>rfl
  |false=>have:=f j ⟨by omega,b⟩;omega
 refine .inl fun j g=>?_
 cases b:p j with
 |true=>rfl
 |false=>exact absurd ⟨j,g,b⟩ h
theorem NA (G:Ih P sep ops) (x:bX sep ops=true) (J:F9 sep s) (v:db P items ow ops (List.range ops.size) s=some b): ∀(m:Nat) (p:Nat->Bool),((List.range ops.size).filter fun j=>!p j).length<=m->y9 ops p-> ∃c,db P items ow ops (lk ops.size p) s=some c:=by
 intro m
 induction m with
 |zero=>
  intro p z _;have f: ∀j,j<ops.size->p j=true:=fun j h=>by
   cases u:p j with
   |true=>rfl
   |false=>
    have:j∈(List.range ops.size).filter fun j=>!p j:=aat.2 ⟨Yv.2 h,by simp[u]⟩
    have E:=Y2.1 (Nat.le_zero.1 z);rw[E]at this;simp at this
  refine⟨b,?_⟩;unfold lk;rw[aar.2 (fun j h=>f j (Yv.1 h))];exact v
 |succ m M=>
  intro p z w;rcases oo (n:=ops.size) (p:=p)with f|⟨i,y,q,t⟩
  ·refine⟨b,?_⟩;unfold lk;rw[aar.2 (fun j h=>f j (Yv.1 h))];exact v
  have r:y9 ops (cG p i):=zz w fun o K e I H=>t _ ((kU x).1 i o K e I H)
  have g:((List.range ops.size).filter fun j=>!cG p i j).length<=m:=by
   have A:((List.range ops.size).filter fun j=>!p j).length=((List.range ops.size).filter fun j=>!cG p i j).length+1:=by
    obtain⟨B,C⟩:=rS y (fun j=>!cG p i j) (by simp[cG]);have D:lk ops.size (cG (fun j=>!cG p i j) i)=(List.range ops.size).filter fun j=>!p j:=ZZ fun j _=>by
     by_cases l:j=i
     ·subst l;simp[cG,q]
     have:(j==i)=false:=by simpa using l
     simp only[cG,this,aa8]
    rw[<- D,C];show _=(lk ops.size fun j=>!cG p i j).length+1;rw[B]
    simp;omega
   omega
  obtain⟨c,L⟩:=M (cG p i) g r;obtain⟨N,F,_⟩:=wD G x w y q J L;exact⟨N,F⟩
theorem gD: ∀(l:List Oper) (k:Nat) (s:AS),(∀(j:Nat) o,l[j]?=some o->ops[k+j]?=some o)->gZ P items ow ops (l.zipIdx k) s=db P items ow ops (List.range' k l.length) s
 |[],k,s,_=>rfl
 |o::l,k,s,h=>by
  simp only[ZA,gZ,Ym,YM,db];have c:ops[k]?=some o:=by have:=h 0 o rfl;simpa using this
  unfold dF;rw[c];simp only;cases aQ P items ow ops k o s with
  |none=>rfl
  |some e=>
   simp only[YH];exact gD l (k+1) e (fun j o b=>by have:=h (j+1) o (by simpa using b);rwa[show k+(j+1)=k+1+j by omega]at this)
def oC (ops:Array Oper) (Qn:Act->World->Prop) (Wp:Nat->(Act->World->Prop)->Act->World->Prop):Nat->Array Bool->Act->World->Prop
 |0,b,a,w=>Region.ready .any ops b=[]/\Qn a w
 |f+1,b,a,w=>(Region.ready .any ops b=[]->Qn a w)/\ ∀i∈Region.ready .any ops b,Wp i (oC ops Qn Wp f (b.setIfInBounds i true)) a w
theorem BE {Q:Exit->Act->World->Prop}: ∀f,oC ops (Q .normal) (fun i K a w=>wpOp P ops Q i K a w) f=wpAny P .any ops Q f
 |0=>rfl
 |f+1=>by
  funext l a w;simp only[oC,wpAny,BE f]
theorem lJ (hS:Ih P sep ops) (V:bX sep ops=true) {Qn:Act->World->Prop} {Wp:Nat->(Act->World->Prop)->Act->World->Prop} (R:(Nat->Bool)->AS->Act->World->Prop) (hl:F9 sep s) (hF:db P items ow ops (List.range ops.size) s=some b) (hQ: ∀p a w,(∀j,j<ops.size->p j=true)->R p b a w->Qn a w) (I: ∀(p:Nat->Bool) (i:Nat) (o:Oper) (c O:AS) (a:Act) (w:World) (K:Act->World->Prop),ops[i]?=some o->p i=false->y9 ops p/\y9 ops (cG p i)/\db P items ow ops (lk ops.size p) s=some c->aQ P items ow ops i o c=some O->R p c a w->(∀v w',R (cG p i) O (a.put o.dst v) w'->K (a.put o.dst v) w')->Wp i K a w):
  ∀(g:Nat) (f:Array Bool) (sL:AS) (a:Act) (w:World),f.size=ops.size->y9 ops (fun j=>f.getD j true)->((List.range ops.size).filter fun j=>!f.getD j true).length<=g->db P items ow ops (lk ops.size fun j=>f.getD j true) s=some sL->R (fun j=>f.getD j true) sL a w->
   oC ops Qn Wp g f a w:=by
 have A: ∀(f:Array Bool) (sL:AS) (a:Act) (w:World),(∀j,j<ops.size->f.getD j true=true)->db P items ow ops (lk ops.size fun j=>f.getD j true) s=some sL->R (fun j=>f.getD j true) sL a w->Qn a w:=fun f sL a w m u C=>by
  unfold lk at u;rw[aar.2 (fun j X=>m j (Yv.1 X)),hF]at u;injection u with u
  subst u;exact hQ _ a w m C
 have t: ∀f:Array Bool,f.size=ops.size->Region.ready .any ops f=[]-> ∀j,j<ops.size->f.getD j true=true:=fun f x C=>by
  rcases oo (n:=ops.size) (p:=fun j=>f.getD j true)with m|⟨i,J,Z,Y⟩
  ·exact m
  exfalso;have:i∈Region.ready .any ops f:=mem_ready.2 ⟨Z,ops[i],by simp[J],fun e W U=>by
   have M:=(kU V).1 i ops[i] (by simp[J]) e W U;have:=Y e.on M;have F:e.on<f.size:=by omega
   simp[F]at this⊢;exact this⟩
  rw[C]at this;cases this
 intro g
 induction g with
 |zero=>
  intro f sL a w x Q hm u C;have m: ∀j,j<ops.size->f.getD j true=true:=fun j X=>by
   cases aa:f.getD j true with
   |true=>rfl
   |false=>
    have:j∈(List.range ops.size).filter fun j=>!f.getD j true:=aat.2 ⟨Yv.2 X,by rw[aa];rfl⟩
    have B:=Y2.1 (Nat.le_zero.1 hm);rw[B]at this;simp at this
  refine⟨?_,A f sL a w m u C⟩;cases H:Region.ready .any ops f with
  |nil=>rfl
  |cons i l=>
   exfalso;have J:i∈Region.ready .any ops f:=by rw[H];simp
   obtain⟨B,o,L,_⟩:=mem_ready.1 J;rw[m i (XV.1 L).1]at B;cases B
 |succ g ih=>
  intro f sL a w x Q hm u C;refine⟨fun H=>A f sL a w (t f x H) u C,fun i J=>?_⟩;obtain⟨B,o,L,E⟩:=mem_ready.1 J;have G:i<ops.size:=(XV.1 L).1;have q:(fun j=>(f.setIfInBounds i true).getD j true)=cG (fun j=>f.getD j true) i:=by
   funext j;by_cases r:j=i
   ·subst r;simp[cG,x,G]
   rw[getD_set_ne true (Zl r)];simp[cG,r]
  have D:y9 ops (cG (fun j=>f.getD j true) i):=zz Q fun o' z e W U=>by
   rw[L]at z;injection z with z
   subst z;have T:=E e W U;have F:e.on<f.size:=by
    rcases aad e.on f.size with h|h
    ·exact h
    simp[Array.getElem?_eq_none h]at T
   simp[F]at T⊢;exact T
  obtain⟨O,N⟩:=NA hS V hl hF _ (cG (fun j=>f.getD j true) i) (XY _) D;obtain⟨sm,S,k2⟩:=wD hS V Q G B hl N;rw[u]at S;injection S with S
  subst S;unfold dF at k2;rw[L]at k2;have y:((List.range ops.size).filter fun j=>!(f.setIfInBounds i true).getD j true).length<=g:=by
   have e0:((List.range ops.size).filter fun j=>!(f.setIfInBounds i true).getD j true)=lk ops.size fun j=>!cG (fun j=>f.getD j true) i j:=by rw[<- q];rfl
   rw[e0];obtain⟨e1,e2⟩:=rS G (fun j=>!cG (fun j=>f.getD j true) i j) (by simp[cG]);have e3:lk ops.size (cG (fun j=>!cG (fun j=>f.getD j true) i j) i)=(List.range ops.size).filter fun j=>!f.getD j true:=ZZ fun j _=>by
    by_cases r:j=i
    ·subst r;simp only[cG,beq_self_eq_true,Bool.true_or,abz];rw[B];rfl
    have:(j==i)=false:=by simpa using r
    simp only[cG,this,aa8]
   have ad:((List.range ops.size).filter fun j=>!f.getD j true).length=(lk ops.size fun j=>!cG (fun j=>f.getD j true) i j).length+1:=by
    rw[<- e3,e2,e1];simp;omega
   omega
  have ac:=I (fun j=>f.getD j true) i o sL O a w (oC ops Qn Wp g (f.setIfInBounds i true)) L B ⟨Q,D,u⟩ k2 C (fun v w' ab=>ih (f.setIfInBounds i true) O _ _ (by simpa using x) (by rw[q];exact D) y (by rw[q];exact N) (by rw[q];exact ab));exact ac
theorem oD (B:Ih P sep ops) (C:bX sep ops=true) {Q:Exit->Act->World->Prop} (R:(Nat->Bool)->AS->Act->World->Prop) (D:F9 sep s) (z:db P items ow ops (List.range ops.size) s=some b) (A: ∀p a w,(∀j,j<ops.size->p j=true)->R p b a w->Q .normal a w) (h: ∀(p:Nat->Bool) (i:Nat) (o:Oper) (c l:AS) (a:Act) (w:World) (K:Act->World->Prop),ops[i]?=some o->p i=false->y9 ops p/\y9 ops (cG p i)/\db P items ow ops (lk ops.size p) s=some c->aQ P items ow ops i o c=some l->R p c a w->(∀v y,R (cG p i) l (a.put o.dst v) y->K (a.put o.dst v) y)->if Region.wanted o (yielded ops a.tmps)then o.wp P a w K Q else K (a.put o.dst undef) w):
  ∀(f:Nat) (e:Array Bool) (sL:AS) (a:Act) (w:World),e.size=ops.size->y9 ops (fun j=>e.getD j true)->((List.range ops.size).filter fun j=>!e.getD j true).length<=f->db P items ow ops (lk ops.size fun j=>e.getD j true) s=some sL->R (fun j=>e.getD j true) sL a w->
   wpAny P .any ops Q f e a w:=fun f e sL a w m n q r t=>by
 rw[<- BE];refine lJ B C R D z A (fun p i o c l a w K x m n q r t=>?_) f e sL a w m n q r t;have g:=h p i o c l a w K x m n q r t;unfold wpOp;rw[x];simp only;split at g
 ·rename_i u;rw[if_pos u];exact .inl g
 rename_i u;rw[if_neg u];exact g
theorem Is (o:gL P items) (r:Ih P sep ops) (t:bX sep ops=true) {X:Nat->Prop} {Q:Exit->Act->World->Prop} (u:F9 sep s) (n:db P items ow ops (List.range ops.size) s=some b) (q: ∀a f,de w e X b a f->Q .normal a f):
  ∀(l:Nat) (g:Array Bool) (sL:AS) (a:Act) (f:World),g.size=ops.size->y9 ops (fun j=>g.getD j true)->((List.range ops.size).filter fun j=>!g.getD j true).length<=l->db P items ow ops (lk ops.size fun j=>g.getD j true) s=some sL->de w e X sL a f->
   wpAny P .any ops Q l g a f:=
 oD r t (fun _ c a f=>de w e X c a f) u n (fun _ a f _ m=>q a f m) (fun _ _ _ _ _ _ _ _ _ _ _ h m p=>im (Q:=Q) o m h p)
theorem nC (A:P.follows .mixedOrders=true) (items:List (an P)) (ow:List Nat) {id:Nat} (m:bX sep ops=true) (F: ∀x∈sep,gK P x.2.2≠some 1) (E:Bc sep s) (h:aV P (items.map an.a) ow (aJ ops ops.toList 0) (some s) (c .normal)):bs P (.region id ops true) c s:=by
 obtain⟨p,v,y⟩:=aO P (items.map an.a) ow ops ops.toList 0 s (c .normal) h;intro q O X a w r;refine wp_region_any A ?_;have z:db P (items.map an.a) ow ops (List.range ops.size) s=some p:=by
  rw[Ya];have:=gD (P:=P) (items:=items.map an.a) (ow:=ow) ops.toList 0 s (fun j o g=>by simpa using g);rw[v]at this;simpa using this.symm
 have l:de q O X s a {w with drawn:=w.drawn+1}:=by
  obtain⟨G,H,t,f,b⟩:=r;have e:Ext w {w with drawn:=w.drawn+1}:=⟨rfl,rfl,rfl,XY _,fun _ _=>rfl⟩;have b:aT X t s a w:=b;exact⟨G,H,t,f.grow e,b.grow e⟩
 refine Is (an.ok items) (kT m F) m ⟨ef r,E⟩ z (Q:=fun e u I=> ∃n,c e n/\de q O X n u I) (fun a w D=>⟨p,y,D⟩) ops.size (Array.replicate ops.size false) s a _ (by simp) ?_ ?_ ?_ l
 ·intro j o B C;have g:j<ops.size:=(XV.1 B).1;simp[g]at C
 ·exact XQ (ZT _ _) (by simp)
 have:lk ops.size (fun j=>(Array.replicate ops.size false).getD j true)=[]:=by
  unfold lk;rw[Zh];intro j g;have:=Yv.1 g;simp[this]
 rw[this];rfl
theorem qW (f:P.follows .mixedOrders=true) (items:List (an P)) (ow:List Nat) {id:Nat} (e:bX [] ops=true) (h: ∀K:AS->Prop,(∀b,bs P m c b->K b)->aV P (items.map an.a) ow (aJ ops ops.toList 0) (some s) K):bs P (.seq (.region id ops true) m) c s:=
 ai (nC f items ow e (by simp) (fun x g=>by simp at g) (h _ fun _ h=>h))
theorem qV (f:P.follows .mixedOrders=true) (items:List (an P)) (ow:List Nat) {id:Nat} (e:bX [] ops=true) (h: ∀K:AS->Prop,(∀b,c .normal b->K b)->aV P (items.map an.a) ow (aJ ops ops.toList 0) (some s) K):bs P (.region id ops true) c s:=
 nC f items ow e (by simp) (fun x g=>by simp at g) (h _ fun _ h=>h)
theorem lF (f:P.follows .mixedOrders=true) {id:Nat} (e:bX [] g=true) (h: ∀K:AS->Prop,(∀b,bs P m c b->K b)->aV P [] [] (aJ g g.toList 0) (some s) K):bs P (.seq (.region id g true) m) c s:=qW f [] [] e h
theorem DR (f:P.follows .mixedOrders=true) {id:Nat} (e:bX [] g=true) (h: ∀K:AS->Prop,(∀b,c .normal b->K b)->aV P [] [] (aJ g g.toList 0) (some s) K):bs P (.region id g true) c s:=qV f [] [] e h
theorem ut (sep:List (Nat×Nat×Nat)) (f:P.follows .mixedOrders=true) (items:List (an P)) (ow:List Nat) {id:Nat} (e:bX sep ops=true) (j: ∀x∈sep,gK P x.2.2≠some 1) (g:Bc sep s) (h: ∀K:AS->Prop,(∀b,bs P m c b->K b)->aV P (items.map an.a) ow (aJ ops ops.toList 0) (some s) K):bs P (.seq (.region id ops true) m) c s:=
 ai (nC f items ow e j g (h _ fun _ h=>h))
end
end
section
def F5:PV->PV
 | .raw (.slice none 0 0)=> .sl []
 |x=>x
def DH:AV->AV
 | .p x=> .p (F5 x)
 |x=>x
def zO (o:OObj):OObj:={o with elems:=o.elems.map (List.map DH)}
theorem RS {x:PV} (h:bO e w x l):bO e w (F5 x) l:=by
 unfold F5;split
 ·cases h;exact .nil none 0
 exact h
theorem RQ {H:OH} {x:AV} (h:x.rel o H e w l):(DH x).rel o H e w l:=by
 cases x with
 |p x=>exact RS h
 |sl a r b len=>exact h
 |ptr a r i j=>exact h
 |fn=>exact h
 |junk=>exact h
section
variable {H:OH} {d:Nat}
def zH (H:OH) (d:Nat):OH:=aw H d ((H d).map zO)
theorem rZ {a:Nat} (h:(zH H d a)[n]?=some f): ∃b,(H a)[n]?=some b/\((a=d/\f=zO b)\/f=b):=by
 unfold zH at h;by_cases c:a=d
 ·subst c;rw[aI,XK]at h;obtain⟨b,e,g⟩:=XI.1 h;exact⟨b,e,.inl ⟨rfl,g.symm⟩⟩
 rw[ay c]at h;exact⟨f,h,.inr rfl⟩
theorem ON {a:Nat} (h:(H a)[n]?=some f): ∃b,(zH H d a)[n]?=some b/\b.es=f.es/\b.elems.length=f.elems.length:=by
 unfold zH;by_cases c:a=d
 ·subst c;exact⟨zO f,by rw[aI,XK,h];rfl,rfl,by simp[zO]⟩
 exact⟨f,by rw[ay c];exact h,rfl,rfl⟩
theorem SM (X:Nat->Prop) (l:Rho):Xo X l (zH H d)=Xo X l H:=by
 funext b;apply propext;constructor
 ·rintro(h|⟨a,r,o,c,f,g⟩)
  ·exact .inl h
  obtain⟨j,e,_⟩:=rZ f;exact .inr ⟨a,r,j,c,e,g⟩
 rintro(h|⟨a,r,o,c,f,g⟩)
 ·exact .inl h
 obtain⟨j,e,_⟩:=ON (d:=d) f;exact .inr ⟨a,r,j,c,e,g⟩
theorem DA {x:AV} (h:x.rel o H e w l):x.rel o (zH H d) e w l:=by
 refine pC (fun x l z h=>?_) x l h;cases x with
 |fn=>cases z
 |p x=>exact h
 |junk=>trivial
 |sl a r A len=>
  obtain⟨f,n,s,t⟩:=h;obtain⟨q,g,m,u⟩:=ON (d:=d) n;exact⟨q,g,by omega,by rw[m];exact t⟩
 |ptr a r i j=>
  obtain⟨f,b,c,n,s,t,y⟩:=h;obtain⟨q,g,m,u⟩:=ON (d:=d) n;exact⟨q,b,c,g,s,by omega,by rw[m];exact y⟩
theorem Wc (h:q.rel o H e w l):q.rel o (zH H d) e w l:=by
 have agg: ∀{m:List AV} {l:Value},bC o H e w m l->bC o (zH H d) e w m l:=fun{m l} ⟨vs,n,p,r⟩=>
  ⟨vs,n,p,fun j x s=>by obtain⟨u,y,z,B⟩:=r j x s;exact⟨u,y,z,DA B⟩⟩
 cases q with
 |one x=>exact DA (x:=x) h
 |agg m=>exact agg h
 |fn f m=>obtain⟨u,n,p⟩:=h;exact⟨u,agg n,p⟩
 |tup C=>
  obtain⟨vs,n,p,r⟩:=h;refine⟨vs,n,p,fun j b m A=>?_⟩;obtain⟨u,y,z⟩:=r j b m A;refine⟨u,y,?_⟩;rcases z with⟨c,g⟩|⟨c,x,s,g⟩
  ·exact .inl ⟨c,agg g⟩
  exact .inr ⟨c,x,s,DA g⟩
theorem OO {a:Nat} (h:objRel o H e w a n f):objRel o (zH H d) e w a n (zO f)/\objRel o (zH H d) e w a n f:=by
 obtain⟨I,J,m⟩:=h;refine⟨⟨fun g K=>?_,J,?_⟩,⟨I,J,?_⟩⟩
 ·simp only[zO,XR]at K;obtain⟨u,p,rfl⟩:=K;simp only[YB,zO];exact I u p
 ·cases l:o a n with
  |none=>rw[l]at m;simp only at m⊢;simp[zO,m]
  |some t=>
   obtain⟨b,c⟩:=t;rw[l]at m;obtain⟨cells,y,z,A,B,C⟩:=m;refine⟨cells,y,z,by simpa[zO] using A,B,fun i g j x q s=>?_⟩;simp only[zO,XK]at q;obtain⟨u,p,rfl⟩:=XI.1 q;simp only[XK]at s;obtain⟨L,D,rfl⟩:=XI.1 s;obtain⟨v,E,F,G⟩:=C i u j L p D;exact⟨v,E,F,RQ (DA G)⟩
 cases l:o a n with
 |none=>rw[l]at m;exact m
 |some t=>
  obtain⟨b,c⟩:=t;rw[l]at m;obtain⟨cells,y,z,A,B,C⟩:=m;refine⟨cells,y,z,A,B,fun i g j x q s=>?_⟩;obtain⟨v,E,F,G⟩:=C i g j x q s;exact⟨v,E,F,DA G⟩
end
theorem gN (d:Nat):bv s ⟨s.tmps,zH s.H d⟩:=by
 rintro P O X a w ⟨J,A,l,f,B⟩;refine⟨J,A,l,⟨f.keep,fun a r o h=>?_,fun a r F L o n b c G h z q u=>?_,fun a r o b c h q=>?_,f.bar,fun a r o h=>?_⟩,fun t x m=>?_⟩
 ·obtain⟨n,g,j⟩:=rZ h;show objRel l (zH s.H d) (Xo X l (zH s.H d)) w a r o;rw[SM];rcases j with⟨_,rfl⟩|rfl
  ·exact(OO (f.objs a r n g)).1
  exact(OO (f.objs a r o g)).2
 ·obtain⟨p,g,_⟩:=rZ h;obtain⟨K,j,_⟩:=rZ z;exact f.inj a r F L p K b c G g j q u
 ·obtain⟨p,g,_⟩:=rZ h;exact f.old a r p b c g q
 ·obtain⟨n,g,j⟩:=rZ h;have:=f.self a r n g;rcases j with⟨_,rfl⟩|rfl
  ·intro e D x m;simp only[zO,XR]at D;obtain⟨I,y,rfl⟩:=D;simp only[XR]at m;obtain⟨E,C,rfl⟩:=m;have:=this I y E C;cases E<;>first|exact this|trivial
  exact this
 obtain⟨v,M,N⟩:=B t x m;refine⟨v,M,?_⟩;show x.rel l (zH s.H d) (Xo X l (zH s.H d)) w v;rw[SM];exact Wc N
theorem Pg (k:Nat) (m:s.tmps[k]?=some (.raw (.slice none 0 0))):bv s ⟨s.tmps.set k (.one (.p (.sl []))),s.H⟩:=by
 rintro r O X a w ⟨o,j,n,c,f⟩;refine⟨o,by simpa using j,n,c,fun t x b=>?_⟩;by_cases e:t=k
 ·subst e;obtain⟨v,q,l⟩:=f t _ m;have g:=(XN.1 m).1;rw[Zi g]at b;injection b with b
  subst b;have l:bO (Xo X n s.H) w (.raw (.slice none 0 0)) v:=l;cases l;exact⟨_,q,bO.nil none 0⟩
 rw[Yy (fun h=>e h.symm)]at b;exact f t x b
end
section
def sw (p q r:Nat):Nat:=if r=p then q else if r=q then p else r
theorem NX (p q r:Nat):sw p q (sw p q r)=r:=by
 unfold sw;by_cases c:r=p
 ·subst c;by_cases b:q=r<;>simp[b]
 by_cases b:r=q
 ·subst b;simp[c]
 simp[c,b]
def Mf (a p q b r:Nat):Nat:=if b=a then sw p q r else r
theorem GS (a p q b r:Nat):Mf a p q b (Mf a p q b r)=r:=by
 unfold Mf;by_cases h:b=a<;>simp[h,NX]
def fi (P:Nat->Nat->Nat×Nat):AV->AV
 | .sl b r c len=> .sl (P b r).1 (P b r).2 c len
 | .ptr b r i j=> .ptr (P b r).1 (P b r).2 i j
 | .fn f b e=>match e with
  |[]=> .junk
  |q::l=>if(q::l).all (fun x=>(P b x.1).1==(P b q.1).1)then .fn f (P b q.1).1 ((q::l).map fun x=>((P b x.1).2,x.2))else .junk
 |x=>x
theorem MD (P:Nat->Nat->Nat×Nat):og (fi P):=fun f b e=>by
 cases e with
 |nil=>exact .inl rfl
 |cons q l=>
  by_cases h:(q::l).all (fun x=>(P b x.1).1==(P b q.1).1)=true
  ·refine .inr ⟨_,_,if_pos h,by simp,fun n x c=>⟨_,by rw[XK,c];rfl,?_⟩⟩;simp only[XO,beq_iff_eq]at h;simp only[fi];rw[h x (XH c)]
  exact .inl (if_neg h)
def mb (P:Nat->Nat->Nat×Nat):TV->TV
 | .one x=> .one (fi P x)
 | .agg b=> .agg (b.map (fi P))
 | .fn f b=> .fn f (b.map (fi P))
 | .tup c=> .tup (c.map fun t=>(t.1,t.2.map (fi P)))
def qS (P:Nat->Nat->Nat×Nat) (o:OObj):OObj:={o with elems:=o.elems.map (List.map (fi P))}
open Classical in
theorem Bj (P:Nat->Nat->Nat×Nat) (G:OH) (S: ∀(b r:Nat) (o:OObj),(s.H b)[r]?=some o->(G (P b r).1)[(P b r).2]?=some (qS P o)) (L: ∀(b r:Nat) (g:OObj),(G b)[r]?=some g-> ∃(A B:Nat) (o:OObj),(s.H A)[B]?=some o/\g=qS P o/\P A B=(b,r)) (ac: ∀(b r N r':Nat) (o g:OObj),(s.H b)[r]?=some o->(s.H N)[r']?=some g->P b r=P N r'->b=N/\r=r') (af: ∀b r,(P b r).1<=4999->b<=4999) (T: ∀(b r:Nat) (g:OObj),(G b)[r]?=some g->selfO b g):bv s ⟨s.tmps.map (mb P),G⟩:=by
 rintro w0 O X a0 w ⟨h1,al,M,m,ap⟩
 let n:Rho:=fun b r=>if h: ∃p:Nat×Nat,(∃o,(s.H p.1)[p.2]?=some o)/\P p.1 p.2=(b,r)then M h.choose.1 h.choose.2 else none
 have F: ∀(b r:Nat) (o:OObj),(s.H b)[r]?=some o->n (P b r).1 (P b r).2=M b r:=fun b r o D=>by
  have h: ∃p:Nat×Nat,(∃o,(s.H p.1)[p.2]?=some o)/\P p.1 p.2=((P b r).1,(P b r).2):=⟨(b,r),⟨o,D⟩,rfl⟩;show(if h: ∃p:Nat×Nat,(∃o,(s.H p.1)[p.2]?=some o)/\P p.1 p.2=((P b r).1,(P b r).2)then M h.choose.1 h.choose.2 else none)=_;rw[dif_pos h];obtain⟨⟨o2,e⟩,C⟩:=h.choose_spec;obtain⟨W,Z⟩:=ac _ _ b r o2 o e D C;rw[W,Z]
 have aa:Xo X n G=Xo X M s.H:=by
  funext b;apply propext;constructor
  ·rintro(h|⟨x,r,o,c,e,C⟩)
   ·exact .inl h
   obtain⟨A,B,g,l,_,g5⟩:=L x r o e;have:=F A B g l;rw[g5]at this;exact .inr ⟨A,B,g,c,l,this.symm.trans C⟩
  rintro(h|⟨x,r,o,c,e,C⟩)
  ·exact .inl h
  exact .inr ⟨_,_,_,c,S x r o e,(F x r o e).trans C⟩
 have I: ∀(Y:Nat->Prop) x v,AV.rel M s.H Y w x v->AV.rel n G Y w (fi P x) v:=fun Y=>fP (MD P) fun x v hn h=>by
  cases x with
  |fn=>cases hn
  |p x=>exact h
  |junk=>trivial
  |sl b r a1 len=>
   obtain⟨o,e,C,l⟩:=h;refine⟨_,S b r o e,by simpa[qS] using C,?_⟩;rw[F b r o e];rcases l with l|⟨q,c,cap,k1,k2,k3,k4⟩
   ·exact .inl l
   exact .inr ⟨q,c,cap,k1,k2,k3,fun hl=>k4 (af b r hl)⟩
  |ptr b r i j=>
   obtain⟨o,N,c,e,C,l,Q⟩:=h;exact⟨_,N,c,S b r o e,by rw[F b r o e];exact C,by simpa[qS] using l,Q⟩
 have E: ∀(Y:Nat->Prop) K v,bC M s.H Y w K v->bC n G Y w (K.map (fi P)) v:=fun Y K v ⟨vs,e,C,l⟩=>by
  refine⟨vs,e,by simpa using C,fun j x hx=>?_⟩;rw[XK]at hx;obtain⟨y,hy,rfl⟩:=XI.1 hx;obtain⟨u,u1,U,u3⟩:=l j y hy;exact⟨u,u1,U,I Y y u u3⟩
 have J: ∀(b r:Nat) (g:OObj),(G b)[r]?=some g-> ∃(A B:Nat) (o:OObj),(s.H A)[B]?=some o/\g=qS P o/\P A B=(b,r)/\n b r=M A B:=fun b r g D=>by
  obtain⟨A,B,o,e,C,l⟩:=L b r g D;have:=F A B o e;rw[l]at this;exact⟨A,B,o,e,C,l,this⟩
 refine⟨h1,by simpa using al,n,⟨m.keep,fun b r g D=>?_,fun b r N r' o g x c c' D ag hb ab=>?_,fun b r o x c D hb=>?_,m.bar,fun b r g D=>?_⟩,fun t x hx=>?_⟩
 ·obtain⟨A,B,o,e,rfl,_,Q⟩:=J b r g D;have ah:=m.objs _ _ o e;rw[aa];obtain⟨q1,q2,q3⟩:=ah;refine⟨fun z he=>?_,q2,?_⟩
  ·simp only[qS,XR]at he;obtain⟨e',R,rfl⟩:=he;simp only[YB,qS];exact q1 e' R
  rw[Q];cases hr:M A B with
  |none=>rw[hr]at q3;simp only at q3⊢;simp[qS,q3]
  |some bc=>
   obtain⟨b2,c⟩:=bc;rw[hr]at q3;obtain⟨cells,p1,p2,p3,p4,p5⟩:=q3;refine⟨cells,p1,p2,by simpa[qS] using p3,p4,fun i z j x hi hj=>?_⟩;simp only[qS,XK]at hi;obtain⟨e',R,rfl⟩:=XI.1 hi;simp only[XK]at hj;obtain⟨x',av,rfl⟩:=XI.1 hj;obtain⟨v,v1,V,v3⟩:=p5 i e' j x' R av;exact⟨v,v1,V,I _ _ _ v3⟩
 ·obtain⟨A,B,o1,e,_,l,Q⟩:=J b r o D;obtain⟨b1,r1,o2,k1,_,k3,k4⟩:=J N r' g ag;rw[Q]at hb;rw[k4]at ab;obtain⟨W,Z⟩:=m.inj _ _ _ _ o1 o2 x c c' e k1 hb ab;subst W Z;rw[l]at k3;injection k3 with W Z
  exact⟨W,Z⟩
 ·obtain⟨A,B,o1,e,_,_,Q⟩:=J b r o D;rw[Q]at hb;exact m.old _ _ o1 x c e hb
 ·exact T b r g D
 simp only[XK]at hx;obtain⟨y,hy,rfl⟩:=XI.1 hx;obtain⟨v,v1,V⟩:=ap t y hy;refine⟨v,v1,?_⟩;show TV.rel n G (Xo X n G) w (mb P y) v;rw[aa];cases y with
 |one x=>exact I _ x v V
 |agg K=>exact E _ K v V
 |fn f K=>obtain⟨u,h1,h2⟩:=V;exact⟨u,E _ K u h1,h2⟩
 |tup ts=>
  obtain⟨vs,e,C,l⟩:=V;refine⟨vs,e,by simpa using C,fun j c K hj=>?_⟩;rw[XK]at hj;obtain⟨z,hz,ad⟩:=XI.1 hj;obtain⟨c',ae⟩:=z;simp at ad;obtain⟨rfl,rfl⟩:=ad;obtain⟨u,u1,U⟩:=l j c' ae hz;refine⟨u,u1,?_⟩;rcases U with⟨U,u3⟩|⟨U,q',rfl,u4⟩
  ·exact .inl ⟨U,E _ _ _ u3⟩
  exact .inr ⟨U,_,rfl,I _ _ _ u4⟩
theorem zU {g:AV->AV} {l:List (List AV)} (h: ∀e∈l,∀z∈e,g z=z):l.map (List.map g)=l:=by
 have:l.map (List.map g)=l.map id:=Yc fun e b=>by
  have:e.map g=e.map id:=Yc fun z c=>h e b z c
  rw[this];simp
 rw[this];simp
section
variable {P:Nat->Nat->Nat×Nat} {b:Nat}
theorem QE (h: ∀r,P b r=(b,r)) (c:bz b p):fi P p=p:=by
 cases p with
 |sl x r g len=>have c:x=b:=c;subst c;simp[fi,h]
 |ptr x r i j=>have c:x=b:=c;subst c;simp[fi,h]
 |fn f x m=>
  obtain⟨c,e⟩:=c;subst c;cases m with
  |nil=>exact absurd rfl e
  |cons q l=>simp[fi,h]
 |_=>rfl
theorem Fd (h: ∀r,P b r=(b,r)) (g:selfO b f):qS P f=f:=by
 have:f.elems.map (List.map (fi P))=f.elems:=zU fun e c z j=>QE h (g e c z j)
 unfold qS;rw[this]
theorem vW (h:dB f):qS P f=f:=by
 have:f.elems.map (List.map (fi P))=f.elems:=zU fun e c z g=>by
  have:=h e c z g;cases z<;>first|rfl|cases this
 unfold qS;rw[this]
theorem JG {d:Nat} (h: ∀r,(P b r).1=d) (c:bz b p):bz d (fi P p):=by
 cases p with
 |sl y r g len=>have c:y=b:=c;subst c;exact h r
 |ptr y r i j=>have c:y=b:=c;subst c;exact h r
 |fn f y m=>
  obtain⟨c,e⟩:=c;subst c;cases m with
  |nil=>exact absurd rfl e
  |cons q l=>simp[fi,h,bz]
 |_=>trivial
theorem CQ {d:Nat} (h: ∀r,(P b r).1=d) (m:selfO b f):selfO d (qS P f):=fun e j x n=>by
 simp only[qS,XR]at j;obtain⟨l,c,rfl⟩:=j;obtain⟨p,g,rfl⟩:=XR.1 n;exact JG h (m l c p g)
end
abbrev Rk (a p q b r:Nat):Nat×Nat:=(b,Mf a p q b r)
abbrev V4 (a p q:Nat):AV->AV:=fi (Rk a p q)
abbrev UD (a p q:Nat):TV->TV:=mb (Rk a p q)
abbrev V5 (a p q:Nat):OObj->OObj:=qS (Rk a p q)
theorem Ge (a p q:Nat) (F:List OObj) (m: ∀r:Nat,F[r]?=((s.H a)[sw p q r]?).map (V5 a p q)):bv s ⟨s.tmps.map (UD a p q),aw s.H a F⟩:=by
 intro B O X g w t;obtain⟨D,z,I,f,A⟩:=id t;have hid: ∀b,b≠a-> ∀r,Rk a p q b r=(b,r):=fun b e r=>by simp[Rk,Mf,e]
 refine Bj (Rk a p q) _ (fun b r o c=>?_) (fun b r o c=>?_) (fun b r C G o E c y x=>?_) (fun b r h=>h) (fun b r o c=>?_) B O X g w t
 ·by_cases e:b=a
  ·subst e;show(aw s.H b F b)[Mf b p q b r]?=_;rw[aI,Mf,if_pos rfl,m,NX,c];rfl
  rw[hid b e,Fd (hid b e) (f.self b r o c)];show(aw s.H a F b)[r]?=_;rw[ay e];exact c
 ·by_cases e:b=a
  ·subst e;rw[aI,m]at c;obtain⟨n,j,l⟩:=XI.1 c;exact⟨b,sw p q r,n,j,l.symm,by simp[Rk,Mf,NX]⟩
  rw[ay e]at c;exact⟨b,r,o,c,(Fd (hid b e) (f.self b r o c)).symm,hid b e r⟩
 ·injection x with u v
  subst u;exact⟨rfl,by rw[<- GS a p q b r,v,GS]⟩
 by_cases e:b=a
 ·subst e;rw[aI,m]at c;obtain⟨n,j,l⟩:=XI.1 c;subst l;exact CQ (fun _=>rfl) (f.self b _ n j)
 rw[ay e]at c;exact f.self b r o c
def oE (a d m:Nat) (b r:Nat):Nat×Nat:=if b=a then(d,m+r)else(b,r)
theorem Tc {a d b:Nat} (h:b≠a) (r:Nat):oE a d n b r=(b,r):=if_neg h
theorem Fc {a d x:Nat} (b:x≠a) (h:selfO x f):qS (oE a d n) f=f:=Fd (Tc b) h
theorem du {s:AS} (a d:Nat) (q:d≠a) (F:a<=4999):bv s ⟨s.tmps.map (mb (oE a d (s.H d).length)),aw (aw s.H a []) d (s.H d++(s.H a).map (qS (oE a d (s.H d).length)))⟩:=by
 intro L O X A w z;obtain⟨M,G,P,e,I⟩:=id z;generalize N:(s.H d).length=m;have n:aw (aw s.H a []) d (s.H d++(s.H a).map (qS (oE a d m))) d=s.H d++(s.H a).map (qS (oE a d m)):=aI;have v:aw (aw s.H a []) d (s.H d++(s.H a).map (qS (oE a d m))) a=[]:=by rw[ay (Zl q),aI]
 have p: ∀x,x≠d->x≠a->aw (aw s.H a []) d (s.H d++(s.H a).map (qS (oE a d m))) x=s.H x:=fun x h k=>by rw[ay h,ay k]
 refine Bj (oE a d m) _ (fun b r o c=>?_) (fun b r o c=>?_) (fun b r E K o J c C l=>?_) (fun b r h=>?_) (fun b r o c=>?_) L O X A w z
 ·by_cases f:b=a
  ·subst f;simp only[oE,if_pos];rw[n,XW (by omega),XK,show m+r-(s.H d).length=r by omega,c];rfl
  rw[Fc f (e.self b r o c)];simp only[oE,if_neg f];by_cases y:b=d
  ·subst y;rw[n,XS (XN.1 c).1];exact c
  rw[p b y f];exact c
 ·by_cases f:b=d
  ·subst f;rw[n]at c;by_cases z:r<m
   ·rw[XS (by omega)]at c;exact⟨b,r,o,c,(Fc q (e.self b r o c)).symm,if_neg q⟩
   rw[XW (by omega),XK]at c;obtain⟨D,t,rfl⟩:=XI.1 c;refine⟨a,r-(s.H b).length,D,t,rfl,?_⟩;simp only[oE,if_pos];rw[show m+(r-(s.H b).length)=r by omega]
  by_cases g:b=a
  ·subst g;rw[v]at c;simp at c
  rw[p b f g]at c;exact⟨b,r,o,c,(Fc g (e.self b r o c)).symm,if_neg g⟩
 ·have lt: ∀(r:Nat) o,(s.H d)[r]?=some o->r<m:=fun r o h=>by have:=(XN.1 h).1;omega
  unfold oE at l;by_cases f:b=a
  ·rw[if_pos f]at l;by_cases j:E=a
   ·rw[if_pos j]at l;injection l with _ l
    exact⟨f.trans j.symm,by omega⟩
   rw[if_neg j]at l;injection l with u B
   subst u;have:=lt K J C;omega
  rw[if_neg f]at l;by_cases j:E=a
  ·rw[if_pos j]at l;injection l with u B
   subst u;have:=lt r o c;omega
  rw[if_neg j]at l;injection l with u B
  exact⟨u,B⟩
 ·unfold oE at h;by_cases f:b=a
  ·rw[f];exact F
  rw[if_neg f]at h;exact h
 by_cases f:b=d
 ·subst f;rw[n]at c;by_cases z:r<m
  ·rw[XS (by omega)]at c;exact e.self b r o c
  rw[XW (by omega),XK]at c;obtain⟨D,t,rfl⟩:=XI.1 c;exact CQ (fun r=>by simp[oE]) (e.self a _ D t)
 by_cases g:b=a
 ·subst g;rw[v]at c;simp at c
 rw[p b f g]at c;exact e.self b r o c
abbrev P2 (a e d:Nat):TV->TV:=mb (oE e d 1)∘mb (oE a d 0)
theorem kN (a e d:Nat) {oa oe:OObj} (r:s.H a=[oa]) (t:s.H e=[oe]) (c:s.H d=[]) (o:dB oa) (p:dB oe) (m:a≠e) (j:a<=4999) (n:e<=4999):
  bv s ⟨s.tmps.map (P2 a e d),aw (aw (aw s.H a []) e []) d [oa,oe]⟩:=by
 have l:d≠a:=by rintro rfl;rw[r]at c;cases c
 have f:d≠e:=by rintro rfl;rw[t]at c;cases c
 have h:=du (s:=s) a d l j;rw[c,r]at h;simp only[Zu,ZV,X9,Yu,vW o]at h;have q:=du (s:=⟨s.tmps.map (mb (oE a d 0)),aw (aw s.H a []) d [oa]⟩) e d f n;have u:aw (aw s.H a []) d [oa] d=[oa]:=aI;have v:aw (aw s.H a []) d [oa] e=[oe]:=by rw[ay (Zl f),ay (Zl m)];exact t
 have e:aw (aw (aw (aw s.H a []) d [oa]) e []) d [oa,oe]=aw (aw (aw s.H a []) e []) d [oa,oe]:=by
  funext x;by_cases g:x=d
  ·subst g;rw[aI,aI]
  rw[ay g,ay g];by_cases b:x=e
  ·subst b;rw[aI,aI]
  rw[ay b,ay b,ay g]
 simp only[u,v,Ym,Zu,X9,Yu,vW p,Z6,ZV,e]at q;rw[<- Y0];exact h.trans q
theorem KQ (a d:Nat) (g:s.H a=[f]) (e:dB f) (c:d≠a) (b:a<=4999):bv s ⟨s.tmps.map (mb (oE a d (s.H d).length)),aw (aw s.H a []) d (s.H d++[f])⟩:=by
 have h:=du (s:=s) a d c b;rw[g]at h;simpa only[X9,Yu,vW e] using h
end
section
section
variable {P:Program}
theorem wq {c:List (dc P)} (t:gL P c) {B:List Nat} {b:Array Oper} {x:World} {O X:Nat->Prop} {Q:Exit->Act->World->Prop} {e:List Nat}: ∀(l:List Oper) (k:Nat) (s f:AS) (a:Act) (w:World),(∀(j:Nat) o,l[j]?=some o->b[k+j]?=some o)->
  gZ P c B b (l.zipIdx k) s=some f->de x O X s a w->(∀q p,de x O X f q p->wpOps P b Q e q p)->wpOps P b Q (List.range' k l.length++e) a w
 |[],k,s,f,a,w,_,h,r,g=>by
  simp only[aau,gZ]at h;injection h with h
  subst h;exact g a w r
 |o::l,k,s,f,a,w,u,h,r,g=>by
  simp only[ZA,gZ]at h;split at h
  ·rename_i C m;simp only[Ym,YM,Z6,wpOps];have z:b[k]?=some o:=by have:=u 0 o rfl;simpa using this
   rw[z];simp only;have:=im (Q:=Q) t r m (K:=wpOps P b Q (List.range' (k+1) l.length++e)) (fun v p A=>wq t l (k+1) C f _ _ (fun j o y=>by have:=u (j+1) o (by simpa using y);rwa[show k+(j+1)=k+1+j by omega]at this) h A g);split at this
   ·rename_i n;rw[if_pos n];exact .inl this
   rename_i n;rw[if_neg n];exact this
  cases h
theorem r9 (m:Nat) (f:List (dc P)) (u:gL P f) (v:List Nat) {id:Nat} {t l:AS} (x:gZ P f v g ((g.toList.take m).zipIdx 0) s=some b) (D:bv b t) (y:gZ P f v g ((g.toList.drop m).zipIdx (g.toList.take m).length) t=some l) (z:c .normal l):bs P (.region id g false) c s:=fun F O X a w r=>by
 refine wp_region ?_;have q:g.size=(g.toList.take m).length+(g.toList.drop m).length:=by simp;omega
 rw[q,Ya,<- Zg,Yw];refine wq u (g.toList.take m) 0 s b a w (fun j o h=>?_) x r fun n p E=>?_
 ·rw[Yl]at h;split at h
  ·simpa using h
  cases h
 refine me u (Q:=fun e n p=> ∃l,c e l/\de F O X l n p) (g.toList.drop m) _ t l n p (fun j o h=>?_) y (D _ _ _ _ _ E) (fun n p C=>⟨l,z,C⟩);rw[Yr]at h;have A:=(XN.1 h).1;have B:(g.toList.take m).length=m:=by
  rw[Y9];omega
 rw[B];simpa using h
theorem ij (b:Nat) (e:List (an P)) (f:List Nat) {id:Nat} (v:s.tmps.length<=1000000) (w:b<=g.toList.length) (h: ∀K:AS->Prop,(∀n,(∃j,bv n j/\j.tmps.length<=1000000/\ ∀K:AS->Prop,(∀l,bs P m c l->K l)->aV P (e.map an.a) f (aJ g (g.toList.drop b) b) (some j) K)->K n)->aV P (e.map an.a) f (aJ g (g.toList.take b) 0) (some s) K):bs P (.seq (.region id g false) m) c s:=by
 obtain⟨n,o,j,t,r,p⟩:=aO P (e.map an.a) f g _ 0 s _ (h _ fun _ h=>h);obtain⟨l,u,q⟩:=aO P (e.map an.a) f g _ b j _ (p _ fun _ h=>h);refine ai (r9 b _ (an.ok e) f o t ?_ q);rwa[show(g.toList.take b).length=b by rw[Y9];omega]
end
end
end Go.Proofs.YtalmoejhjceflaaGreat
