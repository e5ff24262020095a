/-
  Part 12 of a proof (walks and plain facts).
-/
import Derived.Test.YtalmoejhjceflaaGreatQ10
set_option linter.all false
set_option maxRecDepth 100000
set_option maxHeartbeats 64000000
namespace Go.Proofs.YtalmoejhjceflaaGreat
open Go.RowKit
variable {b:Operand->Option TV} {c:Oper} {e:TV}
section
section
variable {P:Program} {s s':AS} {H H':OH}
def Fs (H H':OH):Prop:= ∀a,H a≠[]->H' a=H a
def wE (H H':OH):AV->Prop
 | .sl a _ _ _=>H' a=H a
 | .ptr a _ _ _=>H' a=H a
 | .fn _ a _=>H' a=H a
 |_=>True
def mT (H H':OH):TV->Prop
 | .one x=>wE H H' x
 | .agg b=> ∀x∈b,wE H H' x
 | .fn _ b=> ∀x∈b,wE H H' x
 | .tup c=> ∀t∈c,∀x∈t.2,wE H H' x
theorem mF {x:AV} (h:gN H x) (g:Fs H H'):wE H H' x:=by
 cases x with
 |sl a _ _ _=>exact g a h
 |ptr a _ _ _=>exact g a h
 |fn _ a _=>exact g a h.1
 |p x=>trivial
 |junk=>trivial
theorem Hu (h:iA H e) (g:Fs H H'):mT H H' e:=by
 cases e with
 |one x=>exact mF h g
 |agg c=>exact fun x b=>mF (h x b) g
 |fn f c=>exact fun x b=>mF (h x b) g
 |tup l=>exact fun e j x b=>mF (h e j x b) g
theorem mG (x:AV):wE H H x:=by cases x<;>first|rfl|trivial
theorem Hv (t:TV):mT H H t:=by
 cases t with
 |one x=>exact mG x
 |agg b=>exact fun x _=>mG x
 |fn f b=>exact fun x _=>mG x
 |tup c=>exact fun t _ x _=>mG x
theorem zD {ev e:Operand->Option TV} {op:Op} (h: ∀x∈op.operands,ev x=e x):jV P ev op=jV P e op:=by
 cases op<;>simp only[Op.operands]at h<;>simp only[jV]
 case call c=>
  grind [List.map_congr_left,Call.operands,mmC]
 case move x=>grind
 case assign x=>grind
 case pick c a b=>grind
 case binOp op t x y t'=>grind
 case unOp op t x=>grind
 case convert a b x=>grind
 grind
theorem Gs (k:Nat->Nat->Bool): ∀(c e:List AV),RA (c.map (aR k)) (e.map (aR k))=RA c e
 |[],[]=>rfl
 |[],_::_=>rfl
 |x::c,[]=>by
  simp only[acA,acT];cases x with
  |p x=>cases x with
   |raw v=>cases v<;>rfl
   |sl _=>rfl
   |ptr _=>rfl
  |sl a r b len=>simp only[aR];split<;>rfl
  |ptr a r i j=>simp only[aR];split<;>rfl
  |fn f a g=>simp only[aR];split<;>rfl
  |junk=>rfl
 |x::c,y::e=>by
  have h:=Gs k c e;simp only[acA];cases x with
  |p x=>cases x with
   |raw v=>
    cases v
    case int k1 a=>
     cases y with
     |p y=>cases y with
      |raw u=>cases u<;>first|rfl|grind [aR,RA]
      |sl _=>rfl
      |ptr _=>rfl
     |sl a r b len=>simp only[aR];split<;>rfl
     |ptr a r i j=>simp only[aR];split<;>rfl
     |fn f a g=>simp only[aR];split<;>rfl
     |junk=>rfl
    all_goals rfl
   |sl _=>rfl
   |ptr _=>rfl
  |sl a r b len=>simp only[aR];split<;>rfl
  |ptr a r i j=>simp only[aR];split<;>rfl
  |fn f a g=>simp only[aR];split<;>rfl
  |junk=>rfl
theorem OL (k:Nat->Nat->Bool) (t:TV):Ai (aT k t)=Ai t:=by
 cases t with
 |one x=>
  cases x with
  |p x=>rfl
  |sl a r c len=>simp only[aT,aR];split<;>rfl
  |ptr a r i j=>simp only[aT,aR];split<;>rfl
  |fn f a e=>simp only[aT,aR];split<;>rfl
  |junk=>rfl
 |agg b=>rfl
 |fn f b=>rfl
 |tup g=>rfl
theorem J5 (k:Nat->Nat->Bool) (t:Option TV):(t.map (aT k)).bind Ai=t.bind Ai:=by
 cases t with
 |none=>rfl
 |some t=>exact OL k t
theorem Sy (k:Nat->Nat->Bool) (f:Int->Int->Int) (l:List (Option TV)):UP f (l.map (Option.map (aT k)))=(UP f l).map (aT k):=by
 have key: ∀(t:TV) v,aT k t= .one (.p (.raw v))↔t= .one (.p (.raw v)):=fun t v=>by
  cases t with
  |one x=>
   cases x with
   |p x=>rfl
   |sl a r q len=>grind [aT,aR]
   |ptr a r i j=>grind [aT,aR]
   |fn f a A=>grind [aT,aR]
   |junk=>rfl
  |agg g=>simp[aT]
  |fn f g=>simp[aT]
  |tup B=>simp[aT]
 have n: ∀(o:Option TV) v,o.map (aT k)=some (.one (.p (.raw v)))->o=some (.one (.p (.raw v))):=fun o v h=>by
  simp_all
 cases h:UP f l with
 |some t=>
  grind [nA]
 |none=>
  cases m:UP f (l.map (Option.map (aT k)))with
  |none=>rfl
  |some t=>
   obtain⟨c,u,a,b,e,_⟩:=nA m;obtain⟨x,y,rfl,w,z⟩:=Ec e;grind
theorem N1 (k:Nat->Nat->Bool) {ev:Operand->Option TV} {op:Op}:jV P (fun x=>(ev x).map (aT k)) op=(jV P ev op).map (aT k):=by
 have key: ∀(t:TV) v,aT k t= .one (.p (.raw v))↔t= .one (.p (.raw v)):=fun t v=>by
  cases t with
  |one x=>
   cases x with
   |p x=>rfl
   |sl a r E len=>grind [aT,aR]
   |ptr a r i j=>grind [aT,aR]
   |fn f a J=>grind [aT,aR]
   |junk=>rfl
  |agg h=>simp[aT]
  |fn f h=>simp[aT]
  |tup w=>simp[aT]
 cases op<;>simp only[jV]<;>try rfl
 case call c=>
  unfold mmC;have e:c.args.toList.map (fun x=>(ev x).map (aT k))=(c.args.toList.map ev).map (Option.map (aT k)):=by simp
  grind [Sy]
 case pick c a b=>
  cases F:ev c with
  |none=>rfl
  |some t=>
   grind
 case binOp op t x y t'=>
  by_cases g:JP y=true
  ·rw[if_pos g,if_pos g];unfold CR;grind [J5]
  rw[if_neg g,if_neg g];cases q:ev x with
  |none=>rfl
  |some m=>
   cases I:ev y with
   |none=>
    simp
   |some z=>
    simp only[adB];by_cases o: ∃a b,m= .one (.p (.raw a))/\z= .one (.p (.raw b))
    ·obtain⟨a,b,rfl,rfl⟩:=o;simp only[aT,aR];cases Cw (zc P t) op a b<;>rfl
    by_cases C: ∃A B,m= .agg A/\z= .agg B
    ·obtain⟨A,B,rfl,rfl⟩:=C;simp only[aT,Gt,ac0,Gs];grind
    have u: ∀(t:TV) h,aT k t= .agg h-> ∃n,t= .agg n:=fun t h D=>by
     cases t<;>simp[aT]at D
     simp
    grind
 case unOp op t x=>
  cases q:ev x with
  |none=>rfl
  |some m=>
   simp only[adB];by_cases o: ∃a,m= .one (.p (.raw a))
   ·obtain⟨a,rfl⟩:=o;simp only[aT,aR];cases N6 op a<;>rfl
   grind
 case convert a b x=>
  cases q:ev x with
  |none=>rfl
  |some m=>
   grind
 case extract x i=>
  cases q:ev x with
  |none=>rfl
  |some m=>
   cases m with
   |one y=>rfl
   |agg h=>rfl
   |fn f h=>rfl
   |tup w=>
    simp only[adB,aT,ach];cases G:w[i]? with
    |none=>rfl
    |some t=>
     obtain⟨b,h⟩:=t;cases b with
     |true=>rfl
     |false=>
      cases h with
      |nil=>rfl
      |cons y l=>cases l<;>rfl
theorem km {ev:Operand->Option TV} {x:Option Operand} {d:Nat} (h: ∀y,x=some y->ev y=b y):eY ev x d=eY b x d:=by
 cases x with
 |none=>rfl
 |some y=>grind [eY]
theorem zL {g:List (Nat×Nat)} {ev b:Operand->Option TV}: ∀(parts:List (Nat×Operand)) (e:List AV),(∀p∈parts,ev p.2=b p.2)->l4 g ev e parts=l4 g b e parts
 |[],e,_=>rfl
 |(f,x)::c,e,h=>by
  simp only[l4,h (f,x) (by simp)];split
  ·split
   ·exact zL c _ (fun p j=>h p (by simp[j]))
   rfl
  rfl
theorem CE {n:Nat} {ev b:Operand->Option TV}: ∀(parts:List (Nat×Operand)) (i:Nat),(∀p∈parts,ev p.2=b p.2)->sI ev n i parts=sI b n i parts
 |[],i,_=>rfl
 |(f,x)::c,i,h=>by
  simp only[sI,h (f,x) (by simp),CE c (i+1) (fun p e=>h p (by simp[e]))]
theorem ku {ev b:Operand->Option TV}: ∀(l:List Operand),(∀x∈l,ev x=b x)->fz ev l=fz b l
 |[],_=>rfl
 |x::l,h=>by simp only[fz,h x (by simp),ku l (fun y c=>h y (by simp[c]))]
theorem zF {ev:Operand->Option TV} {op:Op} (h: ∀x∈op.operands,ev x=b x) (z: ∀x∈op.operands,∀t,ev x=some t->mT H H' t):bY P ev H op=bY P b H' op:=by
 cases op<;>simp only[Op.operands]at h z<;>try (simp only[bY];done)
 case load t x=>
  simp only[bY,<- h x (by simp)];cases q:ev x with
  |none=>rfl
  |some l=>
   have:=z x (by simp) l q;cases l with
   |one y=>
    cases y with
    |ptr a r i j=>simp only[show H' a=H a from this]
    |p y=>grind
    |sl a r n len=>rfl
    |junk=>rfl
    |fn=>rfl
   |agg o=>rfl
   |fn f o=>rfl
   |tup B=>rfl
 case indexAddr t x ix=>
  simp only[bY,<- h x (by simp),<- h ix (by simp)];cases dN P t with
  |none=>
   cases q:ev x with
   |none=>rfl
   |some l=>
    cases l with
    |one y=>
     cases y with
     |p y=>
      cases y with
      |raw v=>
       cases v with
       |pointer a=>
        cases a with
        |none=>rfl
        |some a=>
         obtain⟨g,n,D⟩:=a;cases D<;>rfl
       |_=>rfl
      |sl E=>rfl
      |ptr o=>rfl
     |sl a r n len=>rfl
     |ptr a r i j=>rfl
     |junk=>rfl
     |fn=>rfl
    |agg o=>rfl
    |fn f o=>rfl
    |tup B=>rfl
  |some e=>
   cases q:ev x with
   |none=>rfl
   |some l=>
    have:=z x (by simp) l q;cases l with
    |one y=>
     cases y with
     |sl a r n len=>simp only[show H' a=H a from this]
     |p y=>cases y<;>rfl
     |ptr a r i j=>rfl
     |junk=>rfl
     |fn=>rfl
    |agg o=>rfl
    |fn f o=>rfl
    |tup B=>rfl
 case index t x ix=>grind [bY]
 case fieldAddr t x f=>grind [bY]
 case field t x f=>grind [bY]
 case slice t x lo hi mx=>
  cases mx with
  |some m=>
   cases lo with
   |none=>rfl
   |some lo=>
   cases hi with
   |none=>rfl
   |some hi=>
   simp only[bY,<- h x (by simp)];have w:eY ev (some lo) 0=eY b (some lo) 0:=km fun y A=>h y (by grind)
   have u:eY ev (some hi) 0=eY b (some hi) 0:=km fun y A=>h y (by grind)
   have C:eY ev (some m) 0=eY b (some m) 0:=km fun y A=>h y (by grind)
   simp only[w,u,C];cases dN P t with
   |none=>rfl
   |some e=>
    cases q:ev x with
    |none=>rfl
    |some l=>
     have:=z x (by simp) l q;cases l with
     |one y=>
      cases y with
      |sl a r n len=>simp only[show H' a=H a from this]
      |p y=>rfl
      |ptr a r i j=>rfl
      |junk=>rfl
      |fn=>rfl
     |agg o=>rfl
     |fn f o=>rfl
     |tup B=>rfl
  |none=>
   simp only[bY,<- h x (by simp)];have w: ∀d,eY ev lo d=eY b lo d:=fun d=>km fun y A=>h y (by grind)
   have u: ∀d,eY ev hi d=eY b hi d:=fun d=>km fun y A=>h y (by grind)
   simp only[w,u];cases dN P t with
   |none=>rfl
   |some e=>
    cases q:ev x with
    |none=>rfl
    |some l=>
     have:=z x (by simp) l q;cases l with
     |one y=>
      cases y with
      |sl a r n len=>simp only[show H' a=H a from this]
      |p y=>grind
      |ptr a r i j=>rfl
      |junk=>rfl
      |fn=>rfl
     |agg o=>rfl
     |fn f o=>rfl
     |tup B=>rfl
 case build t parts=>
  grind [bY,zL]
 case nilCheck x=>grind [bY]
 case makeFunc fn first captured=>
  cases fn with
  |func f=>
   grind [bY,ku]
  |_=>rfl
 case call c=>
  obtain⟨callee,⟨args⟩,⟨argTypes⟩⟩:=c;cases callee with
  |builtin g=>
   cases g<;>try (simp only[bY];done)
   grind [bY,Call.operands]
  |value f=>rfl
  |invoke r m=>rfl
 all_goals rfl
theorem aad (x:PV):lk H' (.one (.p x))=lk H (.one (.p x)):=by
 have key: ∀G:OH,lk G (.one (.p x))= .one (.p x)\/(x= .raw (.slice none 0 0)/\lk G (.one (.p x))= .one (.p (.sl []))):=fun G=>by
  unfold lk;grind
 by_cases b:x= .raw (.slice none 0 0)
 ·subst b;rfl
 grind
theorem aab (x:PV):iR H' (.one (.p x))=iR H (.one (.p x)):=by
 unfold iR;grind
theorem lK (c:mT H H' e):lk H' e=lk H e/\ ∀b,iB b H' e=iB b H e:=by
 cases e with
 |one x=>
  cases x with
  |sl a r h len=>exact⟨by simp only[lk,show H' a=H a from c],fun b=>by simp only[iB,show H' a=H a from c]⟩
  |p x=>exact⟨aad x,fun b=>rfl⟩
  |ptr a r i j=>exact⟨rfl,fun b=>rfl⟩
  |junk=>exact⟨rfl,fun b=>rfl⟩
  |fn=>exact⟨rfl,fun b=>rfl⟩
 |agg g=>exact⟨rfl,fun b=>rfl⟩
 |fn f g=>exact⟨rfl,fun b=>rfl⟩
 |tup l=>exact⟨rfl,fun b=>rfl⟩
theorem OI (c:mT H H' e):iR H' e=iR H e:=by
 cases e with
 |one x=>
  cases x with
  |sl a r g len=>simp only[iR,show H' a=H a from c]
  |p x=>exact aab x
  |ptr a r i j=>rfl
  |junk=>rfl
  |fn=>rfl
 |agg b=>rfl
 |fn f b=>rfl
 |tup h=>rfl
theorem Jw {z:List (cG P)} {N:List Nat} {i d:Nat} {ev:Operand->Option TV} {op:Op} (h: ∀x∈op.operands,ev x=b x) (E: ∀x∈op.operands,∀t,ev x=some t->mT H H' t):cB P z N i d ev H op=cB P z N i d b H' op:=by
 cases op<;>simp only[Op.operands]at h E<;>try (simp only[cB];done)
 case box e x=>grind [cB]
 case makeSlice t l c=>grind [cB]
 case buildSlice t n parts=>
  simp only[cB];have: ∀n i,sI ev n i parts.toList=sI b n i parts.toList:=fun n i=>CE _ _ (fun p V=>h p.2 (by grind))
  grind
 case call c=>
  obtain⟨callee,⟨args⟩,⟨argTypes⟩⟩:=c;simp only[Call.operands]at h E;cases callee with
  |value f=>
   have M:fz ev args=fz b args:=ku args (fun x J=>h x (by simp[J]));cases f<;>try (simp only[cB];done)
   ·rename_i k;simp only[cB];rw[<- M,<- h (.tmp k) (by simp)];cases q:Jg (ev (.tmp k))with
    |none=>rfl
    |some R=>
     obtain⟨f,o⟩:=R;cases B:fz ev args with
     |none=>simp
     |some A=>
      have S: ∀t∈o,mT H H' t:=fun t u=>by
       unfold Jg at q;split at q
       ·rename_i Q U C;injection q with q
        injection q with q w
        subst q w;have I:=E (.tmp k) (by simp) _ C;simp only[acn]at u;obtain⟨y,L,rfl⟩:=u;exact I y L
       ·rename_i Q a W C;injection q with q
        injection q with q w
        subst q w;have I:=E (.tmp k) (by simp) _ C;simp only[acn]at u;obtain⟨y,L,rfl⟩:=u;exact I
       ·grind
       cases q
      have v: ∀t∈A++o,mT H H' t:=fun t u=>by
       rcases adh.1 u with u|u
       ·obtain⟨j,T,rfl⟩:=adA u;obtain⟨x,J,K⟩:=(bP B).2 j _ (acy T);grind
       grind
      have F:(A++o).map (lk H')=(A++o).map (lk H):=acH fun t u=>(lK (v t u)).1
      have O: ∀g,(A++o).all (iB g H')=(A++o).all (iB g H):=fun g=>by
       rw[Bool.eq_iff_iff];simp only[acr];exact⟨fun G t u=>by rw[<- (lK (v t u)).2 g];grind,fun G t u=>by rw[(lK (v t u)).2 g];grind⟩
      grind
   rename_i f;simp only[cB];rw[<- M];cases B:fz ev args with
   |none=>simp
   |some D=>
    have v: ∀t∈D,mT H H' t:=fun t u=>by
     obtain⟨k,C,rfl⟩:=adA u;obtain⟨x,J,K⟩:=(bP B).2 k _ (acy C);grind
    have F:D.map (lk H')=D.map (lk H):=acH fun t u=>(lK (v t u)).1
    have O: ∀g,D.all (iB g H')=D.all (iB g H):=fun g=>by
     rw[Bool.eq_iff_iff];simp only[acr];exact⟨fun G t u=>by rw[<- (lK (v t u)).2 g];grind,fun G t u=>by rw[(lK (v t u)).2 g];grind⟩
    grind
  |builtin g=>
   cases g<;>try (simp only[cB];done)
   simp only[cB];split
   ·rename_i x y t X;rw[<- h x (by simp),<- h y (by simp)];have F:(ev y).bind (iR H')=(ev y).bind (iR H):=by
     cases L:ev y with
     |none=>rfl
     |some Y=>grind [OI]
    rw[F]
   rfl
  |invoke r m=>rfl
end
end
section
inductive X8 where
 |val (t:TV)
 |new (t:TV) (o:OObj) (l:List OObj)
 |wr (q:IF)
section
variable (P:Program) (items:List (cG P)) (ow:List Nat)
noncomputable def OU (r:Option (TV×List OObj)):Option X8:=match r with
 |some (t,[])=>some (.val t)
 |some (t,o::l)=>some (.new t o l)
 |none=>none
noncomputable def mB (i:Nat) (d:Option Tmp) (op:Op) (ev:Operand->Option TV) (H:OH):Option X8:=
 if pF op then(jV P ev op).map .val
 else if Bw op then(bY P ev H op).map .val
 else match iv P ev H op with
  |some q=>some (.wr q)
  |none=>match d with
   |none=>none
   |some d=>OU (cB P items ow i d ev H op)
def ck (d:Option Tmp) (s:AS):X8->Option AS
 | .val t=>some (s.put d t)
 | .new t o l=>match d with
  |some d=>(match s.H d with|[]=>some (AS.put ⟨s.tmps,aF s.H d (o::l)⟩ (some d) t)|_=>none)
  |none=>none
 | .wr q=>some (AS.put ⟨s.tmps.map (aT q.k),q.H⟩ d q.t)
theorem Cg (i:Nat) (o:Oper) (s:AS):dY P items ow i o s=(mB P items ow i o.dst o.op s.ev s.H).bind (ck o.dst s):=by
 unfold dY mB;split
 ·cases jV P s.ev o.op<;>rfl
 split
 ·cases bY P s.ev s.H o.op<;>rfl
 cases iv P s.ev s.H o.op with
 |some q=>rfl
 |none=>
  cases e:o.dst with
  |none=>rfl
  |some d=>
   simp only;cases c:cB P items ow i d s.ev s.H o.op with
   |none=>rfl
   |some b=>
    obtain⟨t,F⟩:=b;cases F with
    |nil=>rfl
    |cons f l=>rfl
def gate (e:Array Oper) (o:Oper) (s:AS):Option Bool:=match o.guard with
 |none=>some true
 |some (g,c)=>match(e[g]?).bind (·.dst)with
  |none=>none
  |some d=>match s.tmps[d]? with
   |some (.one (.p (.raw (.bool b))))=>some (b==c)
   |some (.tup [])=>some false
   |_=>none
noncomputable def dv (b:Array Oper) (i:Nat) (o:Oper) (s:AS):Option X8:=match gate b o s with
 |some true=>mB P items ow i o.dst o.op s.ev s.H
 |some false=>some (.val .undef)
 |none=>none
theorem bT (e:Array Oper) (i:Nat) (o:Oper) (s:AS):be P items ow e i o s=(dv P items ow e i o s).bind (ck o.dst s):=by
 unfold be dv gate;cases u:o.guard with
 |none=>grind [Cg]
 |some m=>
  obtain⟨g,c⟩:=m;simp only;cases(e[g]?).bind (·.dst)with
  |none=>rfl
  |some d=>
   simp only;cases w:s.tmps[d]? with
   |none=>rfl
   |some t=>
    cases t with
    |agg l=>rfl
    |fn f l=>rfl
    |tup q=>cases q<;>rfl
    |one x=>
     cases x with
     |sl a r n len=>rfl
     |ptr a r i j=>rfl
     |fn=>rfl
     |junk=>rfl
     |p x=>
      cases x with
      |sl y=>rfl
      |ptr l=>rfl
      |raw v=>
       cases v<;>try rfl
       rename_i b;simp only;by_cases h:b=c
       ·grind [Cg]
       rw[if_neg h];have:(b==c)=false:=by grind
       rw[this];rfl
variable {P} {items} {ow}
variable {ops:Array Oper} {s s1 s2 s':AS} {H H':OH}
theorem nG (s:AS) (d:Option Tmp) (t:TV) (k:Nat) (h: ∀e,d=some e->e≠k):(s.put d t).tmps[k]?=s.tmps[k]?:=by
 cases d with
 |none=>rfl
 |some e=>grind [AS.put]
theorem aal (s:AS) (d:Option Tmp) (t:TV) {x:Operand} (h: ∀e,d=some e->x≠ .tmp e):(s.put d t).ev x=s.ev x:=by
 cases x with
 |tmp k=>exact nG s d t k (fun e b c=>h e b (by rw[c]))
 |const v=>rfl
 |global g=>rfl
 |func f=>rfl
theorem il (s:AS) {d e:Option Tmp} (t u:TV) (h: ∀k,d=some k->e≠some k):(s.put d t).put e u=(s.put e u).put d t:=by
 cases d with
 |none=>rfl
 |some d=>
  cases e with
  |none=>rfl
  |some e=>
   grind [AS.put,List.set_comm]
def mJ (ops:Array Oper) (o:Oper) (d:Option Tmp):Prop:= ∀e,d=some e->e∉o.looksAt ops
theorem mJ.op {d:Option Tmp} (h:mJ ops c d): ∀x∈c.op.operands,∀e,d=some e->x≠ .tmp e:=fun x g e f b=>by
 subst b;exact h e f (List.mem_append_left _ (afO.2 ⟨.tmp e,by grind,rfl⟩))
theorem mJ.gate {d:Option Tmp} (h:mJ ops c d) {g:Nat} {w:Bool} (j:c.guard=some (g,w)) {k:Tmp} (l:(ops[g]?).bind (·.dst)=some k): ∀e,d=some e->e≠k:=fun e f b=>by
 subst b;refine h e f (List.mem_append_right _ ?_);grind
theorem RK {d:Option Tmp} (h:mJ ops c d) (t:TV):gate ops c (s.put d t)=gate ops c s:=by
 unfold gate;cases f:c.guard with
 |none=>rfl
 |some e=>
  obtain⟨g,b⟩:=e;simp only;cases j:(ops[g]?).bind (·.dst)with
  |none=>rfl
  |some k=>simp only;rw[nG s d t k (h.gate f j)]
theorem V5 (k:Nat->Nat->Bool) (H':OH) (x:Operand):AS.ev ⟨s.tmps.map (aT k),H'⟩ x=(s.ev x).map (aT k):=by
 cases x with
 |tmp t=>simp_all[AS.ev]
 |const v=>
  simp only[AS.ev,adB]
  congr 1
  unfold qT;split
  ·split
   ·simp only[aT];congr 1;rw[adH];rfl
   rfl
  split<;>rfl
 |global g=>rfl
 |func f=>rfl
theorem N8 (k:Nat->Nat->Bool) (H':OH):gate ops c ⟨s.tmps.map (aT k),H'⟩=gate ops c s:=by
 unfold gate;cases q:c.guard with
 |none=>rfl
 |some l=>
  obtain⟨g,b⟩:=l;simp only;cases u:(ops[g]?).bind (·.dst)with
  |none=>rfl
  |some e=>
   simp only[ach];cases s.tmps[e]? with
   |none=>rfl
   |some t=>
    cases t with
    |one x=>
     cases x with
     |p x=>rfl
     |sl a r m len=>grind [aT,aR]
     |ptr a r i j=>grind [aT,aR]
     |fn f a v=>grind [aT,aR]
     |junk=>rfl
    |agg h=>rfl
    |fn f h=>rfl
    |tup n=>cases n<;>rfl
theorem Jz {ev:Operand->Option TV} {op:Op} (h: ∀x∈op.operands,ev x=b x):iv P ev H op=iv P b H op:=by
 cases op<;>simp only[Op.operands]at h<;>try (simp only[iv];done)
 case store t x y=>simp only[iv,<- h x (by simp),<- h y (by simp)]
 case call c=>
  obtain⟨callee,⟨args⟩,⟨argTypes⟩⟩:=c;grind [Call.operands,iv]
theorem xh {i:Nat} {d:Option Tmp} {ev:Operand->Option TV} {op:Op} (h: ∀x∈op.operands,ev x=b x) (c: ∀x∈op.operands,∀t,ev x=some t->mT H H' t) (g:H'=H\/ ∀e G,iv P e G op=none):
  mB P items ow i d op ev H=mB P items ow i d op b H':=by
 unfold mB;rw[zD h,zF h c];have f:iv P ev H op=iv P b H' op:=by
  grind [Jz]
 rw[f];have j: ∀d,cB P items ow i d ev H op=cB P items ow i d b H' op:=fun d=>Jw h c
 grind
theorem dj {i:Nat} {d:Option Tmp} (h:mJ ops c d) (t:TV):dv P items ow ops i c (s.put d t)=dv P items ow ops i c s:=by
 unfold dv;rw[RK h,gP];split
 ·exact(xh (fun x b=>(aal s d t (h.op x b)).symm) (fun x _ t _=>Hv t) (.inl rfl)).symm
 ·rfl
 rfl
theorem vh {i:Nat} (g:mZ s) (f:Fs s.H H') (b: ∀e G,iv P e G c.op=none):dv P items ow ops i c ⟨s.tmps,H'⟩=dv P items ow ops i c s:=by
 unfold dv;rw[show gate ops c ⟨s.tmps,H'⟩=gate ops c s from rfl];split
 ·refine(xh (fun x _=>?_) (fun x _ t h=>Hu (gf g h) f) (.inr b)).symm;rfl
 ·rfl
 rfl
theorem C9 {i:Nat} (b:pF c.op=true) {out:X8} (h:dv P items ow ops i c s=some out): ∃t,out= .val t:=by
 unfold dv mB at h;grind [Option.map_eq_some_iff]
theorem Bj {i:Nat} (e:pF c.op=true) (b:List TV) (H H':OH):dv P items ow ops i c ⟨b,H⟩=dv P items ow ops i c ⟨b,H'⟩:=by
 unfold dv mB;rw[show gate ops c ⟨b,H⟩=gate ops c ⟨b,H'⟩from rfl];simp only[e,if_true];rfl
theorem vi {i:Nat} (g:pF c.op=true) (k:Nat->Nat->Bool) (H':OH):dv P items ow ops i c ⟨s.tmps.map (aT k),H'⟩=some (.val e)↔ ∃t,dv P items ow ops i c s=some (.val t)/\e=aT k t:=by
 unfold dv mB;rw[N8];cases gate ops c s with
 |none=>simp
 |some b=>
  cases b with
  |false=>
   simp only[Option.some.injEq,X8.val.injEq];constructor
   ·rintro rfl;exact⟨_,rfl,rfl⟩
   rintro⟨t,rfl,rfl⟩;rfl
  |true=>
   simp only[g,if_true];have f:jV P (AS.ev ⟨s.tmps.map (aT k),H'⟩) c.op=(jV P s.ev c.op).map (aT k):=by
    grind [N1,zD,V5]
   rw[f];cases jV P s.ev c.op with
   |none=>simp
   |some t=>
    grind
theorem S6 (b:List TV) (H:OH) (d:Option Tmp) (t:TV):AS.put ⟨b,H⟩ d t=⟨(AS.put ⟨b,H⟩ d t).tmps,H⟩:=by cases d<;>rfl
theorem Ms (s:AS) (k:Nat->Nat->Bool) (H':OH) (d:Option Tmp) (t:TV):(⟨(s.put d t).tmps.map (aT k),H'⟩:AS)=AS.put ⟨s.tmps.map (aT k),H'⟩ d (aT k t):=by
 cases d with
 |none=>rfl
 |some d=>simp_all[AS.put]
def abe (P:Program) (b c:Oper):Prop:=pF b.op=true\/pF c.op=true\/((∀e G,iv P e G b.op=none)/\ ∀e G,iv P e G c.op=none)
theorem tJ {d:Option Tmp} {out:X8} (g: ∀q,out≠ .wr q) (h:ck d s out=some s1): ∃t b,s1=AS.put ⟨s.tmps,b⟩ d t/\Fs s.H b/\((b=s.H/\out= .val t)\/ ∃e o l,d=some e/\s.H e=[]/\b=aF s.H e (o::l)/\out= .new t o l):=by
 cases out with
 |val t=>simp only[ck]at h;injection h with h;exact⟨t,s.H,h.symm,fun _ _=>rfl,.inl ⟨rfl,rfl⟩⟩
 |new t o l=>
  simp only[ck]at h;cases d with
  |none=>cases h
  |some e=>
   simp only at h;split at h
   ·rename_i c;injection h with h
    refine⟨t,aF s.H e (o::l),h.symm,fun a f=>?_,.inr ⟨e,o,l,rfl,c,rfl,rfl⟩⟩;grind [aM]
   cases h
 |wr q=>grind
theorem Pp {i j:Nat} {m:Oper} (hl:mZ s) (v:mJ ops m c.dst) (w:mJ ops c m.dst) (U: ∀k,c.dst=some k->m.dst≠some k) (ad:abe P c m) (f:be P items ow ops i c s=some s1) (g:be P items ow ops j m s1=some s'): ∃s2,be P items ow ops j m s=some s2/\be P items ow ops i c s2=some s':=by
 rw[bT]at f g;obtain⟨ui,n,f⟩:=acG.1 f;obtain⟨uj,b,g⟩:=acG.1 g;by_cases z:pF c.op=true
 ·obtain⟨t,rfl⟩:=C9 z n;simp only[ck]at f;injection f with f
  subst f;rw[dj v]at b;cases uj with
  |val u=>
   grind [ck,bT,dj,il]
  |new u o l=>
   simp only[ck,gP]at g;cases M:m.dst with
   |none=>grind
   |some e=>
    rw[M]at g;simp only at g;split at g
    ·rename_i hH;injection g with g
     subst g;refine⟨AS.put ⟨s.tmps,aF s.H e (o::l)⟩ (some e) u,by grind [bT,ck],?_⟩;rw[bT,<- M,dj w,Bj z s.tmps _ s.H];rw[show(⟨s.tmps,s.H⟩:AS)=s from rfl,n];simp only[aeb,ck];rw[il _ u t (fun k C x=>U k x (by rw[C]))]
     congr 2
     cases c.dst<;>rfl
    cases g
  |wr q=>
   simp only[ck]at g;injection g with g
   subst g;refine⟨AS.put ⟨s.tmps.map (aT q.k),q.H⟩ m.dst q.t,by rw[bT,b];rfl,?_⟩;rw[bT,dj w,(vi z q.k q.H).2 ⟨t,n,rfl⟩];grind [ck,Ms,il]
 by_cases A:pF m.op=true
 ·obtain⟨u,rfl⟩:=C9 A b;simp only[ck]at g;injection g with g
  subst g;cases ui with
  |val t=>
   grind [ck,dj,bT,il]
  |new t o l=>
   simp only[ck]at f;cases B:c.dst with
   |none=>grind
   |some e=>
    rw[B]at f;simp only at f;split at f
    ·rename_i hH;injection f with f
     subst f;rw[<- B,dj v,Bj A s.tmps _ s.H,show(⟨s.tmps,s.H⟩:AS)=s from rfl]at b;refine⟨s.put m.dst u,by rw[bT,b];rfl,?_⟩;rw[bT,dj w,n];simp only[aeb,ck,gP,B,hH];rw[il _ t u (fun k C=>U k (by grind))]
     congr 2
     cases m.dst<;>rfl
    cases f
  |wr q=>
   simp only[ck]at f;injection f with f
   subst f;rw[dj v]at b;obtain⟨u0,hu0,rfl⟩:=(vi A q.k q.H).1 b;refine⟨s.put m.dst u0,by rw[bT,hu0];rfl,?_⟩;grind [bT,dj,ck,Ms,il]
 obtain⟨I,J⟩:(∀e G,iv P e G c.op=none)/\ ∀e G,iv P e G m.op=none:=by
  rcases ad with h|h|h
  ·grind
  ·grind
  exact h
 have y: ∀{i:Nat} {o:Oper} {s:AS} {u:X8},(∀e G,iv P e G o.op=none)->dv P items ow ops i o s=some u-> ∀q,u≠ .wr q:=fun{i o s u} hD r q hq=>by
  subst hq;unfold dv mB at r;split at r
  ·split at r
   ·simp_all
   split at r
   ·simp_all
   rw[hD]at r;simp only at r;split at r
   ·cases r
   unfold OU at r;grind
  ·cases r
  cases r
 obtain⟨t,Q,rfl,Z,K⟩:=tJ (y I n) f;rw[dj v,vh hl Z J]at b;obtain⟨u,R,rfl,aa,L⟩:=tJ (y J b) g;simp only[gP]at L aa
 -- what j does to s alone
 have hj: ∃p,be P items ow ops j m s=some (AS.put ⟨s.tmps,p⟩ m.dst u)/\Fs s.H p/\((p=s.H/\R=Q)\/ ∃e o l,m.dst=some e/\p=aF s.H e (o::l)/\R=aF Q e (o::l)):=by
  rcases L with⟨F,T⟩|⟨e,o,l,F,T,e3,e4⟩
  ·exact⟨s.H,by rw[bT,b,T];rfl,fun _ _=>rfl,.inl ⟨rfl,F⟩⟩
  have ae:s.H e=[]:=by
   rcases K with⟨D,_⟩|⟨E,W,V,D,S,X,_⟩
   ·grind
   rw[X,aM (by grind)]at T;exact T
  refine⟨aF s.H e (o::l),by grind [bT,ck],fun a ha=>aM (by grind),.inr ⟨e,o,l,F,rfl,e3⟩⟩
 obtain⟨p,ac,ab,N⟩:=hj;refine⟨_,ac,?_⟩;rw[bT,dj w,vh hl ab I,n];simp only[aeb];rcases K with⟨D,S⟩|⟨E,W,V,D,S,X,c4⟩
 ·subst S;simp only[ck];rw[il _ u t (fun k C x=>U k x (by rw[C]))]
  congr 1
  have:p=R:=by
   grind
  rw[this,S6 s.tmps Q,D];cases c.dst<;>rfl
 subst c4;have Y:p E=[]:=by
  rcases N with⟨O,_⟩|⟨e,o,l,q0,O,_⟩
  ·grind
  rw[O,aM (by grind)];exact S
 simp only[ck,D,gP,Y];have F:(⟨(AS.put ⟨s.tmps,p⟩ m.dst u).tmps,aF p E (W::V)⟩:AS)=AS.put ⟨s.tmps,aF p E (W::V)⟩ m.dst u:=by cases m.dst<;>rfl
 rw[F,il _ u t (fun k C x=>U k (by grind) (by rw[C]))]
 congr 1
 have:aF p E (W::V)=R:=by
  rcases N with⟨O,q2⟩|⟨e,o,l,q0,O,q2⟩
  ·grind
  rw[O,q2,X];grind [aS,aM]
 rw[this,S6 s.tmps Q];rfl
end
end
end Go.Proofs.YtalmoejhjceflaaGreat
