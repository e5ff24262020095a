/-
  Part 14 of a proof (walks and plain facts).
-/
import Derived.Test.YtalmoejhjceflaaGreatR12
set_option linter.all false
set_option maxRecDepth 100000
set_option maxHeartbeats 64000000
namespace Go.Proofs.YtalmoejhjceflaaGreat
open Go.RowKit
variable {s b:AS} {c:Exit->AS->Prop} {e:Nat->Prop} {n:Nat} {w:World} {f:Nat->Bool} {g:Oper} {h:Value} {j:Rho} {l:Code} {m:OObj} {o:TV}
section
def Zn:Op->Bool
 | .store ..=>false
 | .call {callee:= .builtin .append,..}=>false
 |_=>true
theorem wU {P:Program} {op:Op} (h:Zn op=true): ∀e G,fP P e G op=none:=fun e G=>by
 cases op<;>simp only[fP]<;>try rfl
 case store=>cases h
 case call c=>
  obtain⟨callee,args,g⟩:=c;cases callee with
  |value f=>rfl
  |invoke r m=>rfl
  |builtin b=>cases b<;>first|rfl|cases h
def jC (acc:List Nat):List Edge->Nat
 |[]=>0
 |e::l=>if Region.binds .any e then 2^e.on|||(acc.getD e.on 0|||jC acc l)else jC acc l
def pj:List Oper->List Nat->List Nat
 |[],acc=>acc
 |o::l,acc=>pj l (acc++[jC acc o.after.toList])
def OS:Op->Option Nat
 | .move (.tmp k)=>some k
 | .assign (.tmp k)=>some k
 | .nilCheck (.tmp k)=>some k
 | .fieldAddr _ (.tmp k) _=>some k
 | .load _ (.tmp k)=>some k
 | .indexAddr _ (.tmp k) _=>some k
 |_=>none
def A3 (b:List (Nat×Nat×Nat)) (o:Oper):Bool:=b.all fun x=>o.dst !=some x.1||(o.guard.isNone&&match o.op with
 | .alloc _=>x.1==x.2.1
 |op=>match OS op with
  |some k=>b.any fun y=>y.1==k&&y.2.1==x.2.1
  |none=>false)
def P9 (b:List (Nat×Nat×Nat)) (c e:Oper):Bool:=match e.op with
 | .store t (.tmp q) _=>!oQ c.op&&yf c.op&&c.guard.isNone&&e.guard.isNone&&b.any fun y=>y.1==q&&y.2.2==t&&c.op.operands.toList.all fun z=>match z with
  | .tmp k=>b.any fun x=>x.1==k&&x.2.1 !=y.2.1
  |_=>true
 |_=>false
def sW (f:List (Nat×Nat×Nat)) (e:Array Oper) (b c:Oper):Bool:=b.apart e c&&(oQ b.op||oQ c.op||(Zn b.op&&Zn c.op)||P9 f b c)
def Eh (c:List (Nat×Nat×Nat)) (b:Array Oper) (e:Oper) (m:Nat):List Oper->Nat->Bool
 |[],_=>true
 |oi::l,i=>(m.testBit i||sW c b oi e)&&Eh c b e m l (i+1)
def BM (c:List (Nat×Nat×Nat)) (b:Array Oper) (A:List Nat):List Oper->Nat->Bool
 |[],_=>true
 |oj::l,j=>oj.after.all (fun e=>!Region.binds .any e||decide (e.on<j))&&Eh c b oj (A.getD j 0) (b.toList.take j) 0&&BM c b A l (j+1)
def bY (c:List (Nat×Nat×Nat)) (b:Array Oper):Bool:=BM c b (pj b.toList []) b.toList 0&&b.toList.all (A3 c)
def MR (b:List (Nat×Nat×Nat)) (s:AS):Prop:= ∀x∈b,∀t,s.tmps[x.1]?=some t->selfTV x.2.1 t
def Io (b:List (Nat×Nat×Nat)) (s:AS):Prop:=kV s/\MR b s
def Kg (P:Program) (b:List (Nat×Nat×Nat)) (c:Array Oper):Prop:=(∀x∈b,gL P x.2.2≠some 1)/\ ∀(j:Nat) o,c[j]?=some o->A3 b o=true
section
variable {ops:Array Oper} {sep:List (Nat×Nat×Nat)}
theorem yX: ∀(l:List Oper) (acc:List Nat),(pj l acc).length=acc.length+l.length/\(∀k,k<acc.length->(pj l acc)[k]?=acc[k]?)/\
  ∀(j:Nat) o,l[j]?=some o->(pj l acc)[acc.length+j]?=some (jC ((pj l acc).take (acc.length+j)) o.after.toList)
 |[],acc=>⟨by simp[pj],fun k _=>rfl,fun j o h=>by simp at h⟩
 |o::l,acc=>by
  obtain⟨e,c,f⟩:=yX l (acc++[jC acc o.after.toList]);simp only[pj];refine⟨by grind,fun k g=>by grind,fun j m b=>?_⟩;cases j with
  |zero=>
   simp at b;subst b;rw[aa5,c acc.length (by simp)];have:(pj l (acc++[jC acc o.after.toList])).take acc.length=acc:=by
    apply aaC;grind
   grind
  |succ j=>
   grind
theorem nr {acc:List Nat} {i:Nat}: ∀{l:List Edge},(jC acc l).testBit i=true-> ∃e∈l,Region.binds .any e=true/\(e.on=i\/(acc.getD e.on 0).testBit i=true)
 |[],h=>by simp[jC]at h
 |e::l,h=>by
  simp only[jC]at h;split at h
  ·rename_i g;simp only[Nat.testBit_or,acm,Nat.testBit_two_pow,decide_eq_true_eq]at h;rcases h with h|h|h
   ·grind
   ·grind
   obtain⟨b,c,f⟩:=nr h;grind
  obtain⟨b,c,f⟩:=nr h;grind
def Ax (ops:Array Oper) (p:Nat->Bool):Prop:= ∀(j:Nat) o,ops[j]?=some o->p j=true-> ∀e∈o.after,Region.binds .any e=true->p e.on=true
theorem mn (q:Ax ops f) {i:Nat}: ∀(n j:Nat),j<n->j<ops.size->f j=true->((pj ops.toList []).getD j 0).testBit i=true->f i=true:=by
 intro n
 induction n with
 |zero=>omega
 |succ n u=>
  intro j _ c g b;obtain⟨s,_,l⟩:=yX ops.toList [];have o:ops.toList[j]?=some ops[j]:=by simp[c]
  have:=l j _ o;simp only[abO,aa6]at this;rw[aaw,this,abD]at b;obtain⟨e,t,m,h⟩:=nr b;have r:=q j ops[j] (by simp[c]) g e (by grind) m;grind
theorem xA {f:Oper} {m:Nat}: ∀{l:List Oper} {c:Nat},Eh sep ops f m l c=true-> ∀(k:Nat) b,l[k]?=some b->m.testBit (c+k)=true\/sW sep ops b f=true
 |[],c,_,k,b,h=>by simp at h
 |o::l,c,h,k,b,e=>by
  simp only[Eh,aaO,acm]at h;cases k with
  |zero=>grind
  |succ k=>
   simp at e;have:=xA h.2 k b e;grind
theorem nT {A:List Nat}: ∀{l:List Oper} {b:Nat},BM sep ops A l b=true-> ∀(k:Nat) c,l[k]?=some c->(∀e∈c.after,Region.binds .any e=true->e.on<b+k)/\Eh sep ops c (A.getD (b+k) 0) (ops.toList.take (b+k)) 0=true
 |[],b,_,k,c,h=>by simp at h
 |o::l,b,h,k,c,f=>by
  simp only[BM,aaO]at h;cases k with
  |zero=>
   grind [Array.all_eq_true_iff_forall_mem]
  |succ k=>
   simp at f;have:=nT h.2 k c f;grind
theorem lG (h:bY sep ops=true):(∀(j:Nat) o,ops[j]?=some o-> ∀e∈o.after,Region.binds .any e=true->e.on<j)/\
  ∀(i j:Nat) b c,i<j->ops[i]?=some b->ops[j]?=some c->((pj ops.toList []).getD j 0).testBit i=true\/sW sep ops b c=true:=by
 unfold bY at h;rw[aaO]at h
 replace h:=h.1
 refine⟨fun j o p e g f=>?_,fun i j b c l m n=>?_⟩
 ·have:=(nT h j o (by grind)).1 e g f;omega
 have:=(nT h j c (by grind)).2;rw[aa6]at this;have:=xA this i b (by grind);grind
variable {P:Program} {items:List (df P)} {ow:List Nat}
noncomputable def dX (P:Program) (items:List (df P)) (ow:List Nat) (ops:Array Oper) (i:Nat) (s:AS):Option AS:=match ops[i]? with
 |some o=>aU P items ow ops i o s
 |none=>none
noncomputable def dy (P:Program) (items:List (df P)) (ow:List Nat) (ops:Array Oper):List Nat->AS->Option AS
 |[],s=>some s
 |i::l,s=>(dX P items ow ops i s).bind (dy P items ow ops l)
theorem je (l m:List Nat) (s:AS):dy P items ow ops (l++m) s=(dy P items ow ops l s).bind (dy P items ow ops m):=by
 induction l generalizing s with
 |nil=>rfl
 |cons i l b=>
  simp only[aca,dy];cases dX P items ow ops i s with
  |none=>rfl
  |some c=>exact b c
theorem lF (h:bY sep ops=true) (b: ∀x∈sep,gL P x.2.2≠some 1):Kg P sep ops:=⟨b,fun j o c=>by
 unfold bY at h;grind⟩
theorem K8 {a:Nat} {k:Nat->Nat->Bool} (h:selfTV a o):selfTV a (aP k o):=by
 have e: ∀x,bs a x->bs a (aO k x):=fun x b=>by
  cases x<;>simp only[aO]<;>(try split)<;>first|exact b|trivial
 cases o with
 |one x=>exact e x h
 |agg g=>intro x b;obtain⟨y,c,rfl⟩:=aau.1 b;exact e y (h y c)
 |fn f g=>intro x b;obtain⟨y,c,rfl⟩:=aau.1 b;exact e y (h y c)
 |tup m=>
  intro u j x b;obtain⟨v,l,rfl⟩:=aau.1 j;obtain⟨y,c,rfl⟩:=aau.1 b;exact e y (h v l y c)
theorem zN {a:Nat} {t:TypeId} {b:List AV} (h:kO P t b=some o) (c: ∀x∈b,bs a x):selfTV a o:=by
 unfold kO at h;split at h
 ·split at h
  ·injection h with h;subst h;exact fun x e=>c x (abJ e)
  cases h
 ·split at h
  ·injection h with h;subst h;exact c _ (by simp)
  cases h
 cases h
theorem Lc {a k i:Nat} {d:Option Tmp} {op:Op} {out:RO} (g:OS op=some k) (u:kV s) (h: ∀t,s.tmps[k]?=some t->selfTV a t) (j:jc P items ow i d op s.ev s.H=some out): ∃t,out= .val t/\selfTV a t:=by
 have f: ∀t,s.ev (.tmp k)=some t->selfTV a t:=h;unfold OS at g;split at g<;>first|(injection g with g;subst g)|cases g
 ·obtain⟨t,c,rfl⟩:=aak.1 j;exact⟨t,rfl,f t c⟩
 ·obtain⟨t,c,rfl⟩:=aak.1 j;exact⟨t,rfl,f t c⟩
 ·obtain⟨t,c,rfl⟩:=aak.1 j;refine⟨t,rfl,?_⟩;simp only[bT]at c;split at c
  ·injection c with c;subst c;trivial
  ·rename_i e;injection c with c;subst c;exact f _ e
  cases c
 ·obtain⟨t,c,rfl⟩:=aak.1 j;refine⟨t,rfl,?_⟩;simp only[bT]at c;split at c
  ·split at c
   ·injection c with c;subst c;trivial
   cases c
  ·rename_i e;split at c
   ·injection c with c;subst c;have q:=f _ e;exact q
   cases c
  cases c
 ·obtain⟨t,c,rfl⟩:=aak.1 j;refine⟨t,rfl,?_⟩;simp only[bT]at c;split at c
  ·exact zN c fun y n=>by obtain⟨z,_,rfl⟩:=aau.1 n;trivial
  ·rename_i b r v w e;have e:b=a:=f _ e;subst e;split at c
   ·rename_i o m;split at c
    ·rename_i p l;exact zN c fun y n=>u.2 b o (aai m) p (aai l) y (abX n)
    cases c
   cases c
  cases c
 obtain⟨t,c,rfl⟩:=aak.1 j;refine⟨t,rfl,?_⟩;simp only[bT]at c
 repeat' split at c
 all_goals first|(cases c;done)|(injection c with c;subst c;first|trivial|(show _=a;first|exact f (.one (.sl _ _ _ _)) (by assumption)|exact f (.one (.ptr _ _ _ _)) (by assumption)))
theorem DP (Q:Kg P sep ops) {i:Nat} (R:ops[i]?=some g) (z:Io sep s) (h:aU P items ow ops i g s=some b):Io sep b:=by
 refine⟨AH z.1 h,fun x G t m=>?_⟩;have j:=Q.2 i g R;unfold A3 at j;have j:=aat.1 j x G;rw[bN]at h;obtain⟨out,n,h⟩:=aaG.1 h;by_cases D:g.dst=some x.1
 ·have J:(g.dst !=some x.1)=false:=by simp[D]
  rw[J,ad8,aaO]at j;obtain⟨L,j⟩:=j;have L:g.guard=none:=by simpa using L
  have c:jc P items ow i g.dst g.op s.ev s.H=some out:=by
   unfold cL gate at n;rwa[L]at n
  have key: ∃f,selfTV x.2.1 f/\(out= .val f\/ ∃C l,out= .new f C l):=by
   cases B:g.op with
   |alloc U=>
    rw[B]at j c;have e:x.1=x.2.1:=by simpa using j
    rw[D]at c;unfold jc at c;simp only[oQ,yf,fP,aaZ,if_false]at c;cases I:cn P items ow i x.1 s.ev s.H (.alloc U)with
    |none=>rw[I]at c;cases c
    |some r=>
     obtain⟨f,F⟩:=r;have E:=(we I).1;rw[e]at E;rw[I]at c;cases F with
     |nil=>injection c with c;exact⟨f,E,.inl c.symm⟩
     |cons C l=>injection c with c;exact⟨f,E,.inr ⟨C,l,c.symm⟩⟩
   |_=>
    rw[B]at j c;simp only at j;split at j
    ·rename_i k M;obtain⟨y,T,w⟩:=adG.1 j;simp only[aaO,beq_iff_eq]at w;obtain⟨f,N,O⟩:=Lc M z.1 (fun t m=>by
      have:=z.2 y T t (by rw[w.1];exact m);rwa[w.2]at this) c
     exact⟨f,O,.inl N⟩
    cases j
  obtain⟨f,E,M⟩:=key;have p: ∀H,(AS.put ⟨s.tmps,H⟩ g.dst f).tmps[x.1]?=some t->selfTV x.2.1 t:=fun H h=>by
   rw[D]at h;unfold AS.put at h;simp only[aa3]at h;grind
  rcases M with rfl|⟨C,l,rfl⟩
  ·simp only[ca]at h;injection h with h;subst h
   exact p s.H m
  simp only[ca]at h;split at h
  ·rename_i e A;split at h
   ·injection h with h;subst h
    rw[<- A]at m;exact p _ m
   cases h
  cases h
 have v: ∀e,g.dst=some e->e≠x.1:=fun e A K=>D (by rw[A,K])
 cases out with
 |val f=>
  simp only[ca]at h;injection h with h;subst h
  rw[ki s _ f x.1 v]at m;exact z.2 x G t m
 |new f C l=>
  simp only[ca]at h;split at h
  ·rename_i e A;split at h
   ·injection h with h;subst h
    rw[<- A,ki ⟨s.tmps,_⟩ _ f x.1 v]at m;exact z.2 x G t m
   cases h
  cases h
 |wr q=>
  simp only[ca]at h;injection h with h;subst h
  rw[ki ⟨s.tmps.map (aP q.k),_⟩ _ q.t x.1 v,aam]at m;obtain⟨u,S,rfl⟩:=aak.1 m;exact K8 (z.2 x G u S)
theorem LQ (c:Kg P sep ops) {l:List Nat} (e:Io sep s) (h:dy P items ow ops l s=some b):Io sep b:=by
 induction l generalizing s with
 |nil=>grind [dy]
 |cons i l f=>
  grind [dy,Option.bind_eq_some_iff,dX,DP]
theorem Le (b:List TV):b.map (aP fun _ _=>false)=b:=by
 conv=>rhs;rw[<- ab7 b]
 grind [List.map_congr_left,mt]
theorem Hf {t:TypeId} {f x:Operand} {q:Fm} (l:gL P t≠some 1) (h:fP P s.ev s.H (.store t f x)=some q): ∃b r i j F,s.ev f=some (.one (.ptr b r i j))/\q=⟨.undef,ax s.H b F,fun _ _=>false⟩:=by
 simp only[fP]at h;split at h
 ·rename_i a r i j n g c;have m:n≠1:=fun e=>l (by rw[c,e])
  split at h
  ·grind
  cases h
 cases h
theorem F4 {d:Nat} (v:Value):selfTV d (kM v):=by
 unfold kM;split<;>split<;>first|trivial|(intro x b;obtain⟨y,_,rfl⟩:=aau.1 b;trivial)
theorem Ac {a:Nat} {H:OH} {F:List OObj} (g:a≠n) (h:selfTV a o):kn H (ax H n F) o:=by
 have l: ∀x,bs a x->pV H (ax H n F) x:=fun x e=>by
  cases x with
  |sl c r s len=>obtain rfl:c=a:=e;exact aG g
  |ptr c r i j=>obtain rfl:c=a:=e;exact aG g
  |fn f c v=>obtain rfl:c=a:=e.1;exact aG g
  |p y=>trivial
  |junk=>trivial
 cases o with
 |one x=>exact l x h
 |agg m=>exact fun x e=>l x (h x e)
 |fn f m=>exact fun x e=>l x (h x e)
 |tup w=>exact fun u q x e=>l x (h u q x e)
theorem Qa (Z:Kg P sep ops) {i:Nat} {A:Oper} {V:AS} (m:P9 sep g A=true) (U:Io sep s) (G:kW ops A g.dst) (I:kW ops g A.dst) (hd: ∀k,g.dst=some k->A.dst≠some k) (p:aU P items ow ops i g s=some b) (r:aU P items ow ops n A b=some V): ∃W,aU P items ow ops n A s=some W/\aU P items ow ops i g W=some V:=by
 unfold P9 at m;split at m
 ·rename_i t q x D;simp only[aaO]at m;obtain⟨⟨⟨⟨u,hr⟩,S⟩,T⟩,m⟩:=m;obtain⟨y,Q,m⟩:=adG.1 m;simp only[aaO,beq_iff_eq]at m;obtain⟨⟨hq,N⟩,K⟩:=m;have u:oQ g.op=false:=by simpa using u
  have S:g.guard=none:=by simp_all
  have T:A.guard=none:=by simp_all
  rw[bN]at p r;obtain⟨ui,C,p⟩:=aaG.1 p;obtain⟨uj,w,r⟩:=aaG.1 r;have X: ∀s,cL P items ow ops i g s=(bT P s.ev s.H g.op).map .val:=fun s=>by
   unfold cL gate jc;rw[S];simp only[u,hr,aaZ,if_false,if_true]
  rw[X]at C;obtain⟨tv,M,rfl⟩:=aak.1 C;simp only[ca]at p;injection p with p
  subst p;rw[cG G]at w;have l:=w;unfold cL gate jc at l;rw[T]at l;simp only at l;rw[D]at l;simp only[oQ,yf,aaZ,if_false]at l;split at l
  ·rename_i qq L;injection l with l
   subst l;obtain⟨c,r',i',j',F,hb,rfl⟩:=Hf (by rw[<- N];exact Z.1 y Q) L;have E:c=y.2.1:=by
    have:=U.2 y Q (.one (.ptr c r' i' j')) (by rw[hq];exact hb);exact this
   simp only[ca]at r;injection r with r
   subst r;refine⟨_,by rw[bN,w];rfl,?_⟩;rw[bN,cG I,X];simp only[Le];have e:bT P (AS.ev ⟨s.tmps,ax s.H c F⟩) (ax s.H c F) g.op=some tv:=by
    rw[<- M];refine(wj (fun y Q=>?_) (fun z hz tt o=>?_)).symm
    ·rfl
    have R:=aat.1 K z (by simpa using hz);cases z with
    |tmp k=>
     obtain⟨Y,O,B⟩:=adG.1 R;simp only[aaO,beq_iff_eq,bne_iff_ne,ne_eq]at B;exact Ac (a:=Y.2.1) (by rw[E];exact B.2) (U.2 Y O tt (by rw[B.1];exact o))
    |const v=>
     injection o with o
     subst o;exact Ac (a:=c+1) (by omega) (F4 v)
    |global h=>injection o with o;subst o;trivial
    |func f=>injection o with o;subst o;trivial
   rw[e];simp only[abv,acd,ca];rw[fL _ _ _ (fun k B J=>hd k J (by rw[B]))]
   congr 2
   cases g.dst<;>rfl
  grind [cn,LC]
 cases m
theorem LH (x:Kg P sep ops) {i:Nat} {m:Oper} {v:AS} (l:sW sep ops g m=true) (u:Io sep s) (r:aU P items ow ops i g s=some b) (t:aU P items ow ops n m b=some v):
  ∃w,aU P items ow ops n m s=some w/\aU P items ow ops i g w=some v:=by
 unfold sW at l;simp only[aaO,acm]at l;obtain⟨y,c⟩:=l;obtain⟨o,p,q⟩:=Oper.apart_spec y;rcases c with c|c
 case inr=>exact Qa x c u (fun e f=>o e f) (fun e f=>q e f) (fun k h=>p k h) r t
 refine L7 u.1 (fun e f=>o e f) (fun e f=>q e f) (fun k h=>p k h) ?_ r t;rcases c with(c|c)|c
 ·exact .inl c
 ·exact .inr (.inl c)
 exact .inr (.inr ⟨wU c.1,wU c.2⟩)
theorem Nz (g:Kg P sep ops) {i:Nat} {t:Oper} (p:ops[i]?=some t): ∀{l:List Nat} {s c:AS},Io sep s->(∀j∈l,∃n,ops[j]?=some n/\sW sep ops t n=true)->dy P items ow ops (i::l) s=some c->
  ∃o,dy P items ow ops l s=some o/\dX P items ow ops i o=some c
 |[],s,c,_,_,h=>by
  grind [dy,Option.bind_eq_some_iff]
 |j::l,s,c,r,q,h=>by
  simp only[dy]at h;obtain⟨B,e,h⟩:=aaG.1 h;obtain⟨C,f,y⟩:=aaG.1 h;obtain⟨n,b,v⟩:=q j (by simp);unfold dX at e f;rw[p]at e;rw[b]at f;obtain⟨t1,u,x⟩:=LH g v r e f;have w:dy P items ow ops (i::l) t1=some c:=by
   grind [dy,dX]
  obtain⟨o,z,A⟩:=Nz g p (DP g b r u) (fun j m=>q j (by simp[m])) w;grind [dy,dX]
def l5 (n:Nat) (p:Nat->Bool):List Nat:=(List.range n).filter p
def dJ (p:Nat->Bool) (i:Nat):Nat->Bool:=fun j=>j==i||p j
theorem tc {i:Nat} (f:i<n) (p:Nat->Bool) (b:p i=false):
  l5 n p=(List.range i).filter p++(List.range' (i+1) (n-i-1)).filter p/\l5 n (dJ p i)=(List.range i).filter p++i::(List.range' (i+1) (n-i-1)).filter p:=by
 have c:List.range n=List.range i++i::List.range' (i+1) (n-i-1):=by
  have e:=abr (s:=0) (m:=i) (n:=n-i-1+1);grind [List.range'_succ,List.range_eq_range']
 unfold l5;rw[c];simp only[aef,List.filter_cons,b];grind [dJ,List.filter_congr]
theorem xN (g:Kg P sep ops) (B:bY sep ops=true) (A:Ax ops f) {i:Nat} (l:i<ops.size) (y:f i=false) (w:Io sep s) (h:dy P items ow ops (l5 ops.size (dJ f i)) s=some b):
  ∃e,dy P items ow ops (l5 ops.size f) s=some e/\dX P items ow ops i e=some b:=by
 obtain⟨z,m⟩:=tc l f y;rw[m,je]at h;obtain⟨E,n,o⟩:=aaG.1 h;have x:ops[i]?=some ops[i]:=by simp[l]
 obtain⟨e,C,D⟩:=Nz g x (LQ g w n) (fun j q=>by
  obtain⟨c,r⟩:=List.mem_filter.1 q;obtain⟨t,u⟩:=List.mem_range'_1.1 c;have v:j<ops.size:=by omega
  grind [lG,mn]) o
 grind [je]
theorem AT (c:Ax ops f) {i:Nat} (h: ∀o,ops[i]?=some o-> ∀e∈o.after,Region.binds .any e=true->f e.on=true):Ax ops (dJ f i):=fun j o m n e g b=>by
 by_cases l:j=i
 ·grind [dJ]
 have:f j=true:=by grind [dJ]
 simp[dJ,c j o m this e g b]
theorem oU {n:Nat} {p:Nat->Bool}:(∀j,j<n->p j=true)\/ ∃i,i<n/\p i=false/\ ∀j,j<i->p j=true:=by
 by_cases h: ∃i,i<n/\p i=false
 ·grind [bE]
 grind
theorem P8 (E:Kg P sep ops) (u:bY sep ops=true) (G:Io sep s) (D:dy P items ow ops (List.range ops.size) s=some b): ∀(m:Nat) (p:Nat->Bool),((List.range ops.size).filter fun j=>!p j).length<=m->Ax ops p-> ∃c,dy P items ow ops (l5 ops.size p) s=some c:=by
 intro m
 induction m with
 |zero=>
  intro p x _;have f: ∀j,j<ops.size->p j=true:=fun j F=>by
   simp_all
  grind [l5,List.filter_eq_self]
 |succ m H=>
  intro p x r;rcases oU (n:=ops.size) (p:=p)with f|⟨i,w,z,h⟩
  ·grind [l5,List.filter_eq_self]
  have t:Ax ops (dJ p i):=AT r fun o y e v q=>h _ ((lG u).1 i o y e v q)
  have g:((List.range ops.size).filter fun j=>!dJ p i j).length<=m:=by
   have l:((List.range ops.size).filter fun j=>!p j).length=((List.range ops.size).filter fun j=>!dJ p i j).length+1:=by
    obtain⟨A,B⟩:=tc w (fun j=>!dJ p i j) (by simp[dJ]);have C:l5 ops.size (dJ (fun j=>!dJ p i j) i)=(List.range ops.size).filter fun j=>!p j:=adv fun j _=>by
     grind [dJ]
    grind [l5]
   omega
  grind [xN]
theorem gS: ∀(l:List Oper) (k:Nat) (s:AS),(∀(j:Nat) o,l[j]?=some o->ops[k+j]?=some o)->ib P items ow ops (l.zipIdx k) s=dy P items ow ops (List.range' k l.length) s
 |[],k,s,_=>rfl
 |o::l,k,s,h=>by
  simp only[acb,ib,aaP,abb,dy];have b:ops[k]?=some o:=by have:=h 0 o rfl;omega
  unfold dX;rw[b];simp only;cases aU P items ow ops k o s with
  |none=>rfl
  |some c=>
   simp only[acd];exact gS l (k+1) c (fun j o e=>by have:=h (j+1) o (by grind);grind)
def qn (ops:Array Oper) (Qn:Act->World->Prop) (Wp:Nat->(Act->World->Prop)->Act->World->Prop):Nat->Array Bool->Act->World->Prop
 |0,b,a,w=>Region.ready .any ops b=[]/\Qn a w
 |f+1,b,a,w=>(Region.ready .any ops b=[]->Qn a w)/\ ∀i∈Region.ready .any ops b,Wp i (qn ops Qn Wp f (b.setIfInBounds i true)) a w
theorem C5 {Q:Exit->Act->World->Prop}: ∀f,qn ops (Q .normal) (fun i K a w=>wpOp P ops Q i K a w) f=wpAny P .any ops Q f
 |0=>rfl
 |f+1=>by
  funext l a w;simp only[qn,wpAny,C5 f]
theorem mc (N:Kg P sep ops) (O:bY sep ops=true) {Qn:Act->World->Prop} {Wp:Nat->(Act->World->Prop)->Act->World->Prop} (R:(Nat->Bool)->AS->Act->World->Prop) (Q:Io sep s) (M:dy P items ow ops (List.range ops.size) s=some b) (X: ∀p a w,(∀j,j<ops.size->p j=true)->R p b a w->Qn a w) (J: ∀(p:Nat->Bool) (i:Nat) (o:Oper) (c L:AS) (a:Act) (w:World) (K:Act->World->Prop),ops[i]?=some o->p i=false->Ax ops p/\Ax ops (dJ p i)/\dy P items ow ops (l5 ops.size p) s=some c->aU P items ow ops i o c=some L->R p c a w->(∀v U,R (dJ p i) L (a.put o.dst v) U->K (a.put o.dst v) U)->Wp i K a w):
  ∀(g:Nat) (f:Array Bool) (sL:AS) (a:Act) (w:World),f.size=ops.size->Ax ops (fun j=>f.getD j true)->((List.range ops.size).filter fun j=>!f.getD j true).length<=g->dy P items ow ops (l5 ops.size fun j=>f.getD j true) s=some sL->R (fun j=>f.getD j true) sL a w->
   qn ops Qn Wp g f a w:=by
 have r: ∀(f:Array Bool) (sL:AS) (a:Act) (w:World),(∀j,j<ops.size->f.getD j true=true)->dy P items ow ops (l5 ops.size fun j=>f.getD j true) s=some sL->R (fun j=>f.getD j true) sL a w->Qn a w:=fun f sL a w h m x=>by
  unfold l5 at m;rw[ad6.2 (fun j F=>h j (aa9.1 F)),M]at m;injection m with m
  subst m;exact X _ a w h x
 have l: ∀f:Array Bool,f.size=ops.size->Region.ready .any ops f=[]-> ∀j,j<ops.size->f.getD j true=true:=fun f q x=>by
  rcases oU (n:=ops.size) (p:=fun j=>f.getD j true)with h|⟨i,E,G,aa⟩
  ·exact h
  exfalso;have:i∈Region.ready .any ops f:=mem_ready.2 ⟨G,ops[i],by simp[E],fun e Z Y=>by
   grind [lG]⟩
  grind
 intro g
 induction g with
 |zero=>
  intro f sL a w q B hm m x;have h: ∀j,j<ops.size->f.getD j true=true:=fun j F=>by
   cases ac:f.getD j true with
   |true=>rfl
   |false=>
    have:j∈(List.range ops.size).filter fun j=>!f.getD j true:=List.mem_filter.2 ⟨aa9.2 F,by grind⟩
    grind
  refine⟨?_,r f sL a w h m x⟩;grind [Region.ready]
 |succ g ih=>
  intro f sL a w q B hm m x;refine⟨fun H=>r f sL a w (l f q H) m x,fun i E=>?_⟩;obtain⟨W,o,S,D⟩:=mem_ready.1 E;have t:i<ops.size:=(aaD.1 S).1;have y:(fun j=>(f.setIfInBounds i true).getD j true)=dJ (fun j=>f.getD j true) i:=by
   funext j;by_cases u:j=i
   ·subst u;simp[dJ,q,t]
   rw[getD_set_ne true (acE u)];simp[dJ,u]
  have C:Ax ops (dJ (fun j=>f.getD j true) i):=AT B fun o' ab e Z Y=>by
   grind
  obtain⟨L,I⟩:=P8 N O Q M _ (dJ (fun j=>f.getD j true) i) (aar _) C;obtain⟨sm,A,T⟩:=xN N O B t W Q I;rw[m]at A;injection A with A
  subst A;unfold dX at T;rw[S]at T;have z:((List.range ops.size).filter fun j=>!(f.setIfInBounds i true).getD j true).length<=g:=by
   have V:((List.range ops.size).filter fun j=>!(f.setIfInBounds i true).getD j true)=l5 ops.size fun j=>!dJ (fun j=>f.getD j true) i j:=by rw[<- y];rfl
   rw[V];obtain⟨e1,e2⟩:=tc t (fun j=>!dJ (fun j=>f.getD j true) i j) (by simp[dJ]);have e3:l5 ops.size (dJ (fun j=>!dJ (fun j=>f.getD j true) i j) i)=(List.range ops.size).filter fun j=>!f.getD j true:=adv fun j _=>by
    grind [dJ]
   grind
  grind
theorem pm (y:Kg P sep ops) (z:bY sep ops=true) {Q:Exit->Act->World->Prop} (R:(Nat->Bool)->AS->Act->World->Prop) (A:Io sep s) (u:dy P items ow ops (List.range ops.size) s=some b) (x: ∀p a w,(∀j,j<ops.size->p j=true)->R p b a w->Q .normal a w) (g: ∀(p:Nat->Bool) (i:Nat) (o:Oper) (c h:AS) (a:Act) (w:World) (K:Act->World->Prop),ops[i]?=some o->p i=false->Ax ops p/\Ax ops (dJ p i)/\dy P items ow ops (l5 ops.size p) s=some c->aU P items ow ops i o c=some h->R p c a w->(∀v t,R (dJ p i) h (a.put o.dst v) t->K (a.put o.dst v) t)->if Region.wanted o (yielded ops a.tmps)then o.wp P a w K Q else K (a.put o.dst undef) w):
  ∀(f:Nat) (e:Array Bool) (sL:AS) (a:Act) (w:World),e.size=ops.size->Ax ops (fun j=>e.getD j true)->((List.range ops.size).filter fun j=>!e.getD j true).length<=f->dy P items ow ops (l5 ops.size fun j=>e.getD j true) s=some sL->R (fun j=>e.getD j true) sL a w->
   wpAny P .any ops Q f e a w:=fun f e sL a w l m n q r=>by
 rw[<- C5];refine mc y z R A u x (fun p i o c h a w K B l m n q r=>?_) f e sL a w l m n q r;have C:=g p i o c h a w K B l m n q r;grind [wpOp]
theorem Kq (o:gV P items) (r:Kg P sep ops) (t:bY sep ops=true) {X:Nat->Prop} {Q:Exit->Act->World->Prop} (u:Io sep s) (n:dy P items ow ops (List.range ops.size) s=some b) (q: ∀a f,dx w e X b a f->Q .normal a f):
  ∀(l:Nat) (g:Array Bool) (sL:AS) (a:Act) (f:World),g.size=ops.size->Ax ops (fun j=>g.getD j true)->((List.range ops.size).filter fun j=>!g.getD j true).length<=l->dy P items ow ops (l5 ops.size fun j=>g.getD j true) s=some sL->dx w e X sL a f->
   wpAny P .any ops Q l g a f:=
 pm r t (fun _ c a f=>dx w e X c a f) u n (fun _ a f _ m=>q a f m) (fun _ _ _ _ _ _ _ _ _ _ _ h m p=>iv (Q:=Q) o m h p)
theorem og (y:P.follows .mixedOrders=true) (items:List (ao P)) (ow:List Nat) {id:Nat} (l:bY sep ops=true) (C: ∀x∈sep,gL P x.2.2≠some 1) (B:MR sep s) (h:aS P (items.map ao.a) ow (aJ ops ops.toList 0) (some s) (c .normal)):bf P (.region id ops true) c s:=by
 obtain⟨n,G,u⟩:=aR P (items.map ao.a) ow ops ops.toList 0 s (c .normal) h;intro p O X a w r;refine wp_region_any y ?_;have v:dy P (items.map ao.a) ow ops (List.range ops.size) s=some n:=by
  grind [List.range_eq_range',gS]
 have g:dx p O X s a {w with drawn:=w.drawn+1}:=by
  obtain⟨D,E,q,f,b⟩:=r;have e:Ext w {w with drawn:=w.drawn+1}:=⟨rfl,rfl,rfl,aar _,fun _ _=>rfl⟩;have b:aV X q s a w:=b;exact⟨D,E,q,f.grow e,b.grow e⟩
 refine Kq (ao.ok items) (lF l C) l ⟨eP r,B⟩ v (Q:=fun e t F=> ∃m,c e m/\dx p O X m t F) (fun a w A=>⟨n,u,A⟩) ops.size (Array.replicate ops.size false) s a _ (by simp) ?_ ?_ ?_ g
 ·intro j o z I;have H:j<ops.size:=(aaD.1 z).1;simp_all
 ·grind
 have:l5 ops.size (fun j=>(Array.replicate ops.size false).getD j true)=[]:=by
  simp_all[l5]
 rw[this];rfl
theorem oh (f:P.follows .mixedOrders=true) (items:List (ao P)) (ow:List Nat) {id:Nat} (e:bY [] ops=true) (h: ∀K:AS->Prop,(∀b,bf P l c b->K b)->aS P (items.map ao.a) ow (aJ ops ops.toList 0) (some s) K):bf P (.seq (.region id ops true) l) c s:=
 ai (og f items ow e (by simp) (fun x g=>by simp at g) (h _ fun _ h=>h))
theorem lw (f:P.follows .mixedOrders=true) (items:List (ao P)) (ow:List Nat) {id:Nat} (e:bY [] ops=true) (h: ∀K:AS->Prop,(∀b,c .normal b->K b)->aS P (items.map ao.a) ow (aJ ops ops.toList 0) (some s) K):bf P (.region id ops true) c s:=
 og f items ow e (by simp) (fun x g=>by simp at g) (h _ fun _ h=>h)
theorem ip (f:P.follows .mixedOrders=true) {id:Nat} {ops:Array Oper} (e:bY [] ops=true) (h: ∀K:AS->Prop,(∀b,bf P l c b->K b)->aS P [] [] (aJ ops ops.toList 0) (some s) K):bf P (.seq (.region id ops true) l) c s:=oh f [] [] e h
theorem Fw (f:P.follows .mixedOrders=true) {id:Nat} {ops:Array Oper} (e:bY [] ops=true) (h: ∀K:AS->Prop,(∀b,c .normal b->K b)->aS P [] [] (aJ ops ops.toList 0) (some s) K):bf P (.region id ops true) c s:=lw f [] [] e h
theorem JQ {t n:Nat} (h:gL P t=some n) (e:n≠1) (b:(sep.all fun x=>x.2.2==t)=true): ∀x∈sep,gL P x.2.2≠some 1:=fun x c=>by
 have:=aat.1 b x c;grind
def Vi (a:Nat):TV->Bool
 | .one (.sl b _ _ _)=>b==a
 | .one (.ptr b _ _ _)=>b==a
 | .one (.p _)=>true
 | .one .junk=>true
 |_=>false
theorem BV (h:(sep.all fun x=>match s.tmps[x.1]? with|some t=>Vi x.2.1 t|none=>true)=true):MR sep s:=fun x c t b=>by
 have:=aat.1 h x c;rw[b]at this;simp only at this;unfold Vi at this;split at this<;>first|(cases this;done)|trivial|exact beq_iff_eq.1 this
theorem vz (sep:List (Nat×Nat×Nat)) (f:P.follows .mixedOrders=true) (items:List (ao P)) (ow:List Nat) {id:Nat} (e:bY sep ops=true) (j: ∀x∈sep,gL P x.2.2≠some 1) (g:MR sep s) (h: ∀K:AS->Prop,(∀b,bf P l c b->K b)->aS P (items.map ao.a) ow (aJ ops ops.toList 0) (some s) K):bf P (.seq (.region id ops true) l) c s:=
 ai (og f items ow e j g (h _ fun _ h=>h))
end
end
section
def Fi:PV->PV
 | .raw (.slice none 0 0)=> .sl []
 |x=>x
def Fa:AV->AV
 | .p x=> .p (Fi x)
 |x=>x
def zO (o:OObj):OObj:={o with elems:=o.elems.map (List.map Fa)}
theorem UJ {x:PV} (b:bM e w x h):bM e w (Fi x) h:=by
 unfold Fi;split
 ·cases b;exact .nil none 0
 exact b
theorem UI {H:OH} {x:AV} (b:x.rel j H e w h):(Fa x).rel j H e w h:=by
 cases x with
 |p x=>exact UJ b
 |sl a r f len=>exact b
 |ptr a r i c=>exact b
 |fn=>exact b
 |junk=>exact b
section
variable {H:OH} {d:Nat}
def zH (H:OH) (d:Nat):OH:=ax H d ((H d).map zO)
theorem tl {a:Nat} (h:(zH H d a)[n]?=some m): ∃b,(H a)[n]?=some b/\((a=d/\m=zO b)\/m=b):=by
 unfold zH at h;grind [aM,aG]
theorem Ro {a:Nat} (h:(H a)[n]?=some m): ∃b,(zH H d a)[n]?=some b/\b.es=m.es/\b.elems.length=m.elems.length:=by
 unfold zH;grind [zO,aM,aG]
theorem Vu (X:Nat->Prop) (l:Rho):Xo X l (zH H d)=Xo X l H:=by
 funext b;apply propext;constructor
 ·rintro(h|⟨a,r,o,c,f,g⟩)
  ·exact .inl h
  obtain⟨j,e,_⟩:=tl f;exact .inr ⟨a,r,j,c,e,g⟩
 rintro(h|⟨a,r,o,c,f,g⟩)
 ·exact .inl h
 obtain⟨j,e,_⟩:=Ro (d:=d) f;exact .inr ⟨a,r,j,c,e,g⟩
theorem Fb {x:AV} (f:x.rel j H e w h):x.rel j (zH H d) e w h:=by
 refine qr (fun x h y f=>?_) x h f;cases x with
 |fn=>cases y
 |p x=>exact f
 |junk=>trivial
 |sl a r z len=>
  obtain⟨o,m,q,u⟩:=f;obtain⟨n,l,s,t⟩:=Ro (d:=d) m;exact⟨n,l,by omega,by grind⟩
 |ptr a r i g=>
  obtain⟨o,b,c,m,q,u,A⟩:=f;obtain⟨n,l,s,t⟩:=Ro (d:=d) m;exact⟨n,b,c,l,q,by omega,by grind⟩
theorem Zg (c:o.rel j H e w h):o.rel j (zH H d) e w h:=by
 have agg: ∀{l:List AV} {h:Value},bH j H e w l h->bH j (zH H d) e w l h:=fun{l h} ⟨vs,m,n,p⟩=>
  ⟨vs,m,n,fun g x r=>by grind [Fb]⟩
 cases o with
 |one x=>exact Fb (x:=x) c
 |agg l=>exact agg c
 |fn f l=>obtain⟨u,m,n⟩:=c;exact⟨u,agg m,n⟩
 |tup s=>
  obtain⟨vs,m,n,p⟩:=c;refine⟨vs,m,n,fun g b l q=>?_⟩;grind [Fb]
theorem Rp {a:Nat} (h:objRel j H e w a n m):objRel j (zH H d) e w a n (zO m)/\objRel j (zH H d) e w a n m:=by
 obtain⟨F,t,u⟩:=h;refine⟨⟨fun f M=>?_,t,?_⟩,⟨F,t,?_⟩⟩
 ·grind [zO]
 ·cases l:j a n with
  |none=>grind [zO]
  |some s=>
   obtain⟨b,c⟩:=s;rw[l]at u;obtain⟨cells,B,C,L,D,E⟩:=u;refine⟨cells,B,C,by grind [zO],D,fun i f g x y z=>?_⟩;simp only[zO,aam]at y;obtain⟨A,p,rfl⟩:=aak.1 y;simp only[aam]at z;obtain⟨K,q,rfl⟩:=aak.1 z;obtain⟨v,G,I,J⟩:=E i A g K p q;exact⟨v,G,I,UI (Fb J)⟩
 cases l:j a n with
 |none=>grind
 |some s=>
  grind [Fb]
end
theorem gn (d:Nat):bG s ⟨s.tmps,zH s.H d⟩:=by
 rintro L O X a w ⟨G,v,A,f,I⟩;refine⟨G,v,A,⟨f.keep,fun a r o h=>?_,fun a r D K o l b c E h u m n=>?_,fun a r o b c h m=>?_,f.bar,fun a r o h=>?_⟩,fun t x y=>?_⟩
 ·obtain⟨l,g,j⟩:=tl h;show objRel A (zH s.H d) (Xo X A (zH s.H d)) w a r o;rw[Vu];rcases j with⟨_,rfl⟩|rfl
  ·exact(Rp (f.objs a r l g)).1
  exact(Rp (f.objs a r o g)).2
 ·obtain⟨p,g,_⟩:=tl h;obtain⟨J,j,_⟩:=tl u;exact f.inj a r D K p J b c E g j m n
 ·obtain⟨p,g,_⟩:=tl h;exact f.old a r p b c g m
 ·obtain⟨l,g,j⟩:=tl h;have:=f.self a r l g;rcases j with⟨_,rfl⟩|rfl
  ·intro e B x y;simp only[zO,aau]at B;obtain⟨F,q,rfl⟩:=B;simp only[aau]at y;obtain⟨C,z,rfl⟩:=y;have:=this F q C z;cases C<;>first|exact this|trivial
  omega
 grind [Vu,Zg]
theorem RW (k:Nat) (j:s.tmps[k]?=some (.raw (.slice none 0 0))):bG s ⟨s.tmps.set k (.one (.p (.sl []))),s.H⟩:=by
 rintro q O X a w ⟨m,n,l,b,g⟩;refine⟨m,by grind,l,b,fun t x c=>?_⟩;by_cases f:t=k
 ·subst f;obtain⟨v,o,h⟩:=g t _ j;have e:=(aao.1 j).1;rw[abA e]at c;injection c with c
  subst c;have h:bM (Xo X l s.H) w (.raw (.slice none 0 0)) v:=h;cases h;exact⟨_,o,bM.nil none 0⟩
 grind
end
end Go.Proofs.YtalmoejhjceflaaGreat
