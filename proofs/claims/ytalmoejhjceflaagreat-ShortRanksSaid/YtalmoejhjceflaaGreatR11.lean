/-
  Part 12 of a proof (walks and plain facts).
-/
import Derived.Test.YtalmoejhjceflaaGreatR10
set_option linter.all false
set_option maxRecDepth 100000
set_option maxHeartbeats 64000000
namespace Go.Proofs.YtalmoejhjceflaaGreat
open Go.RowKit
variable {b:Operand->Option TV} {c:Oper} {e:TV}
section
section
variable {P:Program} {s s':AS} {H H':OH}
def Cy (H H':OH):Prop:= ∀a,H a≠[]->H' a=H a
def pV (H H':OH):AV->Prop
 | .sl a _ _ _=>H' a=H a
 | .ptr a _ _ _=>H' a=H a
 | .fn _ a _=>H' a=H a
 |_=>True
def kn (H H':OH):TV->Prop
 | .one x=>pV H H' x
 | .agg b=> ∀x∈b,pV H H' x
 | .fn _ b=> ∀x∈b,pV H H' x
 | .tup c=> ∀t∈c,∀x∈t.2,pV H H' x
theorem kR {x:AV} (h:fj H x) (g:Cy H H'):pV H H' x:=by
 cases x with
 |sl a _ _ _=>exact g a h
 |ptr a _ _ _=>exact g a h
 |fn _ a _=>exact g a h.1
 |p x=>trivial
 |junk=>trivial
theorem Em (h:fX H e) (g:Cy H H'):kn H H' e:=by
 cases e with
 |one x=>exact kR h g
 |agg c=>exact fun x b=>kR (h x b) g
 |fn f c=>exact fun x b=>kR (h x b) g
 |tup l=>exact fun e j x b=>kR (h e j x b) g
theorem kS (x:AV):pV H H x:=by cases x<;>first|rfl|trivial
theorem En (t:TV):kn H H t:=by
 cases t with
 |one x=>exact kS x
 |agg b=>exact fun x _=>kS x
 |fn f b=>exact fun x _=>kS x
 |tup c=>exact fun t _ x _=>kS x
theorem wg {ev e:Operand->Option TV} {op:Op} (h: ∀x∈op.operands,ev x=e x):jE P ev op=jE P e op:=by
 cases op<;>simp only[Op.operands]at h<;>simp only[jE]
 case call c=>
  grind [List.map_congr_left,Call.operands,YV]
 case move x=>grind
 case assign x=>grind
 case pick c a b=>grind
 case binOp op t x y t'=>grind
 case unOp op t x=>grind
 case convert a b x=>grind
 grind
theorem Dr (k:Nat->Nat->Bool): ∀(c e:List AV),N4 (c.map (aO k)) (e.map (aO k))=N4 c e
 |[],[]=>rfl
 |[],_::_=>rfl
 |x::c,[]=>by
  simp only[aaI,aaY];cases x with
  |p x=>cases x with
   |raw v=>cases v<;>rfl
   |sl _=>rfl
   |ptr _=>rfl
  |sl a r b len=>simp only[aO];split<;>rfl
  |ptr a r i j=>simp only[aO];split<;>rfl
  |fn f a g=>simp only[aO];split<;>rfl
  |junk=>rfl
 |x::c,y::e=>by
  have h:=Dr k c e;simp only[aaI];cases x with
  |p x=>cases x with
   |raw v=>
    cases v
    case int k1 a=>
     cases y with
     |p y=>cases y with
      |raw u=>cases u<;>first|rfl|grind [aO,N4]
      |sl _=>rfl
      |ptr _=>rfl
     |sl a r b len=>simp only[aO];split<;>rfl
     |ptr a r i j=>simp only[aO];split<;>rfl
     |fn f a g=>simp only[aO];split<;>rfl
     |junk=>rfl
    all_goals rfl
   |sl _=>rfl
   |ptr _=>rfl
  |sl a r b len=>simp only[aO];split<;>rfl
  |ptr a r i j=>simp only[aO];split<;>rfl
  |fn f a g=>simp only[aO];split<;>rfl
  |junk=>rfl
theorem Lt (k:Nat->Nat->Bool) (t:TV):wS (aP k t)=wS t:=by
 cases t with
 |one x=>
  cases x with
  |p x=>rfl
  |sl a r c len=>simp only[aP,aO];split<;>rfl
  |ptr a r i j=>simp only[aP,aO];split<;>rfl
  |fn f a e=>simp only[aP,aO];split<;>rfl
  |junk=>rfl
 |agg b=>rfl
 |fn f b=>rfl
 |tup g=>rfl
theorem GN (k:Nat->Nat->Bool) (t:Option TV):(t.map (aP k)).bind wS=t.bind wS:=by
 cases t with
 |none=>rfl
 |some t=>exact Lt k t
theorem O2 (k:Nat->Nat->Bool) (f:Int->Int->Int) (l:List (Option TV)):Rz f (l.map (Option.map (aP k)))=(Rz f l).map (aP k):=by
 have key: ∀(t:TV) v,aP k t= .one (.p (.raw v))↔t= .one (.p (.raw v)):=fun t v=>by
  cases t with
  |one x=>
   cases x with
   |p x=>rfl
   |sl a r q len=>grind [aP,aO]
   |ptr a r i j=>grind [aP,aO]
   |fn f a A=>grind [aP,aO]
   |junk=>rfl
  |agg g=>simp[aP]
  |fn f g=>simp[aP]
  |tup B=>simp[aP]
 have n: ∀(o:Option TV) v,o.map (aP k)=some (.one (.p (.raw v)))->o=some (.one (.p (.raw v))):=fun o v h=>by
  simp_all
 cases h:Rz f l with
 |some t=>
  grind [lQ]
 |none=>
  cases m:Rz f (l.map (Option.map (aP k)))with
  |none=>rfl
  |some t=>
   obtain⟨c,u,a,b,e,_⟩:=lQ m;obtain⟨x,y,rfl,w,z⟩:=Bm e;grind
theorem KR (k:Nat->Nat->Bool) {ev:Operand->Option TV} {op:Op}:jE P (fun x=>(ev x).map (aP k)) op=(jE P ev op).map (aP k):=by
 have key: ∀(t:TV) v,aP k t= .one (.p (.raw v))↔t= .one (.p (.raw v)):=fun t v=>by
  cases t with
  |one x=>
   cases x with
   |p x=>rfl
   |sl a r E len=>grind [aP,aO]
   |ptr a r i j=>grind [aP,aO]
   |fn f a J=>grind [aP,aO]
   |junk=>rfl
  |agg h=>simp[aP]
  |fn f h=>simp[aP]
  |tup w=>simp[aP]
 cases op<;>simp only[jE]<;>try rfl
 case call c=>
  unfold YV;have e:c.args.toList.map (fun x=>(ev x).map (aP k))=(c.args.toList.map ev).map (Option.map (aP k)):=by simp
  grind [O2]
 case pick c a b=>
  cases F:ev c with
  |none=>rfl
  |some t=>
   grind
 case binOp op t x y t'=>
  by_cases g:Gv y=true
  ·rw[if_pos g,if_pos g];unfold zI;grind [GN]
  rw[if_neg g,if_neg g];cases q:ev x with
  |none=>rfl
  |some m=>
   cases I:ev y with
   |none=>
    simp
   |some z=>
    simp only[abv];by_cases o: ∃a b,m= .one (.p (.raw a))/\z= .one (.p (.raw b))
    ·obtain⟨a,b,rfl,rfl⟩:=o;simp only[aP,aO];cases zj (vQ P t) op a b<;>rfl
    by_cases C: ∃A B,m= .agg A/\z= .agg B
    ·obtain⟨A,B,rfl,rfl⟩:=C;simp only[aP,Ds,ab0,Dr];grind
    have u: ∀(t:TV) h,aP k t= .agg h-> ∃n,t= .agg n:=fun t h D=>by
     cases t<;>simp[aP]at D
     simp
    grind
 case unOp op t x=>
  cases q:ev x with
  |none=>rfl
  |some m=>
   simp only[abv];by_cases o: ∃a,m= .one (.p (.raw a))
   ·obtain⟨a,rfl⟩:=o;simp only[aP,aO];cases KW op a<;>rfl
   grind
 case convert a b x=>
  cases q:ev x with
  |none=>rfl
  |some m=>
   grind
 case extract x i=>
  cases q:ev x with
  |none=>rfl
  |some m=>
   cases m with
   |one y=>rfl
   |agg h=>rfl
   |fn f h=>rfl
   |tup w=>
    simp only[abv,aP,aam];cases G:w[i]? with
    |none=>rfl
    |some t=>
     obtain⟨b,h⟩:=t;cases b with
     |true=>rfl
     |false=>
      cases h with
      |nil=>rfl
      |cons y l=>cases l<;>rfl
theorem iS {ev:Operand->Option TV} {x:Option Operand} {d:Nat} (h: ∀y,x=some y->ev y=b y):d7 ev x d=d7 b x d:=by
 cases x with
 |none=>rfl
 |some y=>grind [d7]
theorem wt {g:List (Nat×Nat)} {ev b:Operand->Option TV}: ∀(parts:List (Nat×Operand)) (e:List AV),(∀p∈parts,ev p.2=b p.2)->j6 g ev e parts=j6 g b e parts
 |[],e,_=>rfl
 |(f,x)::c,e,h=>by
  simp only[j6,h (f,x) (by simp)];split
  ·split
   ·exact wt c _ (fun p j=>h p (by simp[j]))
   rfl
  rfl
theorem zu {n:Nat} {ev b:Operand->Option TV}: ∀(parts:List (Nat×Operand)) (i:Nat),(∀p∈parts,ev p.2=b p.2)->pE ev n i parts=pE b n i parts
 |[],i,_=>rfl
 |(f,x)::c,i,h=>by
  simp only[pE,h (f,x) (by simp),zu c (i+1) (fun p e=>h p (by simp[e]))]
theorem iW {ev b:Operand->Option TV}: ∀(l:List Operand),(∀x∈l,ev x=b x)->fA ev l=fA b l
 |[],_=>rfl
 |x::l,h=>by simp only[fA,h x (by simp),iW l (fun y c=>h y (by simp[c]))]
theorem wj {ev:Operand->Option TV} {op:Op} (h: ∀x∈op.operands,ev x=b x) (z: ∀x∈op.operands,∀t,ev x=some t->kn H H' t):bT P ev H op=bT P b H' op:=by
 cases op<;>simp only[Op.operands]at h z<;>try (simp only[bT];done)
 case load t x=>
  simp only[bT,<- h x (by simp)];cases q:ev x with
  |none=>rfl
  |some l=>
   have:=z x (by simp) l q;cases l with
   |one y=>
    cases y with
    |ptr a r i j=>simp only[show H' a=H a from this]
    |p y=>grind
    |sl a r n len=>rfl
    |junk=>rfl
    |fn=>rfl
   |agg o=>rfl
   |fn f o=>rfl
   |tup B=>rfl
 case indexAddr t x ix=>
  simp only[bT,<- h x (by simp),<- h ix (by simp)];cases dn P t with
  |none=>
   cases q:ev x with
   |none=>rfl
   |some l=>
    cases l with
    |one y=>
     cases y with
     |p y=>
      cases y with
      |raw v=>
       cases v with
       |pointer a=>
        cases a with
        |none=>rfl
        |some a=>
         obtain⟨g,n,D⟩:=a;cases D<;>rfl
       |_=>rfl
      |sl E=>rfl
      |ptr o=>rfl
     |sl a r n len=>rfl
     |ptr a r i j=>rfl
     |junk=>rfl
     |fn=>rfl
    |agg o=>rfl
    |fn f o=>rfl
    |tup B=>rfl
  |some e=>
   cases q:ev x with
   |none=>rfl
   |some l=>
    have:=z x (by simp) l q;cases l with
    |one y=>
     cases y with
     |sl a r n len=>simp only[show H' a=H a from this]
     |p y=>cases y<;>rfl
     |ptr a r i j=>rfl
     |junk=>rfl
     |fn=>rfl
    |agg o=>rfl
    |fn f o=>rfl
    |tup B=>rfl
 case index t x ix=>grind [bT]
 case fieldAddr t x f=>grind [bT]
 case field t x f=>grind [bT]
 case slice t x lo hi mx=>
  cases mx with
  |some m=>
   cases lo with
   |none=>rfl
   |some lo=>
   cases hi with
   |none=>rfl
   |some hi=>
   simp only[bT,<- h x (by simp)];have w:d7 ev (some lo) 0=d7 b (some lo) 0:=iS fun y A=>h y (by grind)
   have u:d7 ev (some hi) 0=d7 b (some hi) 0:=iS fun y A=>h y (by grind)
   have C:d7 ev (some m) 0=d7 b (some m) 0:=iS fun y A=>h y (by grind)
   simp only[w,u,C];cases dn P t with
   |none=>rfl
   |some e=>
    cases q:ev x with
    |none=>rfl
    |some l=>
     have:=z x (by simp) l q;cases l with
     |one y=>
      cases y with
      |sl a r n len=>simp only[show H' a=H a from this]
      |p y=>rfl
      |ptr a r i j=>rfl
      |junk=>rfl
      |fn=>rfl
     |agg o=>rfl
     |fn f o=>rfl
     |tup B=>rfl
  |none=>
   simp only[bT,<- h x (by simp)];have w: ∀d,d7 ev lo d=d7 b lo d:=fun d=>iS fun y A=>h y (by grind)
   have u: ∀d,d7 ev hi d=d7 b hi d:=fun d=>iS fun y A=>h y (by grind)
   simp only[w,u];cases dn P t with
   |none=>rfl
   |some e=>
    cases q:ev x with
    |none=>rfl
    |some l=>
     have:=z x (by simp) l q;cases l with
     |one y=>
      cases y with
      |sl a r n len=>simp only[show H' a=H a from this]
      |p y=>grind
      |ptr a r i j=>rfl
      |junk=>rfl
      |fn=>rfl
     |agg o=>rfl
     |fn f o=>rfl
     |tup B=>rfl
 case build t parts=>
  grind [bT,wt]
 case nilCheck x=>grind [bT]
 case makeFunc fn first captured=>
  cases fn with
  |func f=>
   grind [bT,iW]
  |_=>rfl
 case call c=>
  obtain⟨callee,⟨args⟩,⟨argTypes⟩⟩:=c;cases callee with
  |builtin g=>
   cases g<;>try (simp only[bT];done)
   grind [bT,Call.operands]
  |value f=>rfl
  |invoke r m=>rfl
 all_goals rfl
theorem WW (x:PV):j9 H' (.one (.p x))=j9 H (.one (.p x)):=by
 have key: ∀G:OH,j9 G (.one (.p x))= .one (.p x)\/(x= .raw (.slice none 0 0)/\j9 G (.one (.p x))= .one (.p (.sl []))):=fun G=>by
  unfold j9;grind
 by_cases b:x= .raw (.slice none 0 0)
 ·subst b;rfl
 grind
theorem WV (x:PV):gH H' (.one (.p x))=gH H (.one (.p x)):=by
 unfold gH;grind
theorem jQ (c:kn H H' e):j9 H' e=j9 H e/\ ∀b,g9 b H' e=g9 b H e:=by
 cases e with
 |one x=>
  cases x with
  |sl a r h len=>exact⟨by simp only[j9,show H' a=H a from c],fun b=>by simp only[g9,show H' a=H a from c]⟩
  |p x=>exact⟨WW x,fun b=>rfl⟩
  |ptr a r i j=>exact⟨rfl,fun b=>rfl⟩
  |junk=>exact⟨rfl,fun b=>rfl⟩
  |fn=>exact⟨rfl,fun b=>rfl⟩
 |agg g=>exact⟨rfl,fun b=>rfl⟩
 |fn f g=>exact⟨rfl,fun b=>rfl⟩
 |tup l=>exact⟨rfl,fun b=>rfl⟩
theorem Lq (c:kn H H' e):gH H' e=gH H e:=by
 cases e with
 |one x=>
  cases x with
  |sl a r g len=>simp only[gH,show H' a=H a from c]
  |p x=>exact WV x
  |ptr a r i j=>rfl
  |junk=>rfl
  |fn=>rfl
 |agg b=>rfl
 |fn f b=>rfl
 |tup h=>rfl
theorem Ga {z:List (df P)} {N:List Nat} {i d:Nat} {ev:Operand->Option TV} {op:Op} (h: ∀x∈op.operands,ev x=b x) (E: ∀x∈op.operands,∀t,ev x=some t->kn H H' t):cn P z N i d ev H op=cn P z N i d b H' op:=by
 cases op<;>simp only[Op.operands]at h E<;>try (simp only[cn];done)
 case box e x=>grind [cn]
 case makeSlice t l c=>grind [cn]
 case buildSlice t n parts=>
  simp only[cn];have: ∀n i,pE ev n i parts.toList=pE b n i parts.toList:=fun n i=>zu _ _ (fun p V=>h p.2 (by grind))
  grind
 case call c=>
  obtain⟨callee,⟨args⟩,⟨argTypes⟩⟩:=c;simp only[Call.operands]at h E;cases callee with
  |value f=>
   have M:fA ev args=fA b args:=iW args (fun x J=>h x (by simp[J]));cases f<;>try (simp only[cn];done)
   ·rename_i k;simp only[cn];rw[<- M,<- h (.tmp k) (by simp)];cases q:FU (ev (.tmp k))with
    |none=>rfl
    |some R=>
     obtain⟨f,o⟩:=R;cases B:fA ev args with
     |none=>simp
     |some A=>
      have S: ∀t∈o,kn H H' t:=fun t u=>by
       unfold FU at q;split at q
       ·rename_i Q U C;injection q with q
        injection q with q w
        subst q w;have I:=E (.tmp k) (by simp) _ C;simp only[aau]at u;obtain⟨y,L,rfl⟩:=u;exact I y L
       ·rename_i Q a W C;injection q with q
        injection q with q w
        subst q w;have I:=E (.tmp k) (by simp) _ C;simp only[aau]at u;obtain⟨y,L,rfl⟩:=u;exact I
       ·grind
       cases q
      have v: ∀t∈A++o,kn H H' t:=fun t u=>by
       rcases abf.1 u with u|u
       ·obtain⟨j,T,rfl⟩:=abo u;obtain⟨x,J,K⟩:=(bV B).2 j _ (aay T);grind
       grind
      have F:(A++o).map (j9 H')=(A++o).map (j9 H):=aaN fun t u=>(jQ (v t u)).1
      have O: ∀g,(A++o).all (g9 g H')=(A++o).all (g9 g H):=fun g=>by
       rw[Bool.eq_iff_iff];simp only[aat];exact⟨fun G t u=>by rw[<- (jQ (v t u)).2 g];grind,fun G t u=>by rw[(jQ (v t u)).2 g];grind⟩
      grind
   rename_i f;simp only[cn];rw[<- M];cases B:fA ev args with
   |none=>simp
   |some D=>
    have v: ∀t∈D,kn H H' t:=fun t u=>by
     obtain⟨k,C,rfl⟩:=abo u;obtain⟨x,J,K⟩:=(bV B).2 k _ (aay C);grind
    have F:D.map (j9 H')=D.map (j9 H):=aaN fun t u=>(jQ (v t u)).1
    have O: ∀g,D.all (g9 g H')=D.all (g9 g H):=fun g=>by
     rw[Bool.eq_iff_iff];simp only[aat];exact⟨fun G t u=>by rw[<- (jQ (v t u)).2 g];grind,fun G t u=>by rw[(jQ (v t u)).2 g];grind⟩
    grind
  |builtin g=>
   cases g<;>try (simp only[cn];done)
   simp only[cn];split
   ·rename_i x y t X;rw[<- h x (by simp),<- h y (by simp)];have F:(ev y).bind (gH H')=(ev y).bind (gH H):=by
     cases L:ev y with
     |none=>rfl
     |some Y=>grind [Lq]
    rw[F]
   rfl
  |invoke r m=>rfl
end
end
section
inductive RO where
 |val (t:TV)
 |new (t:TV) (o:OObj) (l:List OObj)
 |wr (q:Fm)
section
variable (P:Program) (items:List (df P)) (ow:List Nat)
noncomputable def LC (r:Option (TV×List OObj)):Option RO:=match r with
 |some (t,[])=>some (.val t)
 |some (t,o::l)=>some (.new t o l)
 |none=>none
noncomputable def jc (i:Nat) (d:Option Tmp) (op:Op) (ev:Operand->Option TV) (H:OH):Option RO:=
 if oQ op then(jE P ev op).map .val
 else if yf op then(bT P ev H op).map .val
 else match fP P ev H op with
  |some q=>some (.wr q)
  |none=>match d with
   |none=>none
   |some d=>LC (cn P items ow i d ev H op)
def ca (d:Option Tmp) (s:AS):RO->Option AS
 | .val t=>some (s.put d t)
 | .new t o l=>match d with
  |some d=>(match s.H d with|[]=>some (AS.put ⟨s.tmps,ax s.H d (o::l)⟩ (some d) t)|_=>none)
  |none=>none
 | .wr q=>some (AS.put ⟨s.tmps.map (aP q.k),q.H⟩ d q.t)
theorem yV (i:Nat) (o:Oper) (s:AS):d6 P items ow i o s=(jc P items ow i o.dst o.op s.ev s.H).bind (ca o.dst s):=by
 unfold d6 jc;split
 ·cases jE P s.ev o.op<;>rfl
 split
 ·cases bT P s.ev s.H o.op<;>rfl
 cases fP P s.ev s.H o.op with
 |some q=>rfl
 |none=>
  cases e:o.dst with
  |none=>rfl
  |some d=>
   simp only;cases c:cn P items ow i d s.ev s.H o.op with
   |none=>rfl
   |some b=>
    obtain⟨t,F⟩:=b;cases F with
    |nil=>rfl
    |cons f l=>rfl
def gate (e:Array Oper) (o:Oper) (s:AS):Option Bool:=match o.guard with
 |none=>some true
 |some (g,c)=>match(e[g]?).bind (·.dst)with
  |none=>none
  |some d=>match s.tmps[d]? with
   |some (.one (.p (.raw (.bool b))))=>some (b==c)
   |some (.tup [])=>some false
   |_=>none
noncomputable def cL (b:Array Oper) (i:Nat) (o:Oper) (s:AS):Option RO:=match gate b o s with
 |some true=>jc P items ow i o.dst o.op s.ev s.H
 |some false=>some (.val .undef)
 |none=>none
theorem bN (e:Array Oper) (i:Nat) (o:Oper) (s:AS):aU P items ow e i o s=(cL P items ow e i o s).bind (ca o.dst s):=by
 unfold aU cL gate;cases u:o.guard with
 |none=>grind [yV]
 |some m=>
  obtain⟨g,c⟩:=m;simp only;cases(e[g]?).bind (·.dst)with
  |none=>rfl
  |some d=>
   simp only;cases w:s.tmps[d]? with
   |none=>rfl
   |some t=>
    cases t with
    |agg l=>rfl
    |fn f l=>rfl
    |tup q=>cases q<;>rfl
    |one x=>
     cases x with
     |sl a r n len=>rfl
     |ptr a r i j=>rfl
     |fn=>rfl
     |junk=>rfl
     |p x=>
      cases x with
      |sl y=>rfl
      |ptr l=>rfl
      |raw v=>
       cases v<;>try rfl
       rename_i b;simp only;by_cases h:b=c
       ·grind [yV]
       rw[if_neg h];have:(b==c)=false:=by grind
       rw[this];rfl
variable {P} {items} {ow}
variable {ops:Array Oper} {s s1 s2 s':AS} {H H':OH}
theorem ki (s:AS) (d:Option Tmp) (t:TV) (k:Nat) (h: ∀e,d=some e->e≠k):(s.put d t).tmps[k]?=s.tmps[k]?:=by
 cases d with
 |none=>rfl
 |some e=>grind [AS.put]
theorem W0 (s:AS) (d:Option Tmp) (t:TV) {x:Operand} (h: ∀e,d=some e->x≠ .tmp e):(s.put d t).ev x=s.ev x:=by
 cases x with
 |tmp k=>exact ki s d t k (fun e b c=>h e b (by rw[c]))
 |const v=>rfl
 |global g=>rfl
 |func f=>rfl
theorem fL (s:AS) {d e:Option Tmp} (t u:TV) (h: ∀k,d=some k->e≠some k):(s.put d t).put e u=(s.put e u).put d t:=by
 cases d with
 |none=>rfl
 |some d=>
  cases e with
  |none=>rfl
  |some e=>
   grind [AS.put,List.set_comm]
def kW (ops:Array Oper) (o:Oper) (d:Option Tmp):Prop:= ∀e,d=some e->e∉o.looksAt ops
theorem kW.op {d:Option Tmp} (h:kW ops c d): ∀x∈c.op.operands,∀e,d=some e->x≠ .tmp e:=fun x g e f b=>by
 subst b;exact h e f (List.mem_append_left _ (adn.2 ⟨.tmp e,by grind,rfl⟩))
theorem kW.gate {d:Option Tmp} (h:kW ops c d) {g:Nat} {w:Bool} (j:c.guard=some (g,w)) {k:Tmp} (l:(ops[g]?).bind (·.dst)=some k): ∀e,d=some e->e≠k:=fun e f b=>by
 subst b;refine h e f (List.mem_append_right _ ?_);grind
theorem Oe {d:Option Tmp} (h:kW ops c d) (t:TV):gate ops c (s.put d t)=gate ops c s:=by
 unfold gate;cases f:c.guard with
 |none=>rfl
 |some e=>
  obtain⟨g,b⟩:=e;simp only;cases j:(ops[g]?).bind (·.dst)with
  |none=>rfl
  |some k=>simp only;rw[ki s d t k (h.gate f j)]
theorem SZ (k:Nat->Nat->Bool) (H':OH) (x:Operand):AS.ev ⟨s.tmps.map (aP k),H'⟩ x=(s.ev x).map (aP k):=by
 cases x with
 |tmp t=>simp_all[AS.ev]
 |const v=>
  simp only[AS.ev,abv]
  congr 1
  unfold kM;split
  ·split
   ·simp only[aP];congr 1;rw[abV];rfl
   rfl
  split<;>rfl
 |global g=>rfl
 |func f=>rfl
theorem KY (k:Nat->Nat->Bool) (H':OH):gate ops c ⟨s.tmps.map (aP k),H'⟩=gate ops c s:=by
 unfold gate;cases q:c.guard with
 |none=>rfl
 |some l=>
  obtain⟨g,b⟩:=l;simp only;cases u:(ops[g]?).bind (·.dst)with
  |none=>rfl
  |some e=>
   simp only[aam];cases s.tmps[e]? with
   |none=>rfl
   |some t=>
    cases t with
    |one x=>
     cases x with
     |p x=>rfl
     |sl a r m len=>grind [aP,aO]
     |ptr a r i j=>grind [aP,aO]
     |fn f a v=>grind [aP,aO]
     |junk=>rfl
    |agg h=>rfl
    |fn f h=>rfl
    |tup n=>cases n<;>rfl
theorem Gc {ev:Operand->Option TV} {op:Op} (h: ∀x∈op.operands,ev x=b x):fP P ev H op=fP P b H op:=by
 cases op<;>simp only[Op.operands]at h<;>try (simp only[fP];done)
 case store t x y=>simp only[fP,<- h x (by simp),<- h y (by simp)]
 case call c=>
  obtain⟨callee,⟨args⟩,⟨argTypes⟩⟩:=c;grind [Call.operands,fP]
theorem tQ {i:Nat} {d:Option Tmp} {ev:Operand->Option TV} {op:Op} (h: ∀x∈op.operands,ev x=b x) (c: ∀x∈op.operands,∀t,ev x=some t->kn H H' t) (g:H'=H\/ ∀e G,fP P e G op=none):
  jc P items ow i d op ev H=jc P items ow i d op b H':=by
 unfold jc;rw[wg h,wj h c];have f:fP P ev H op=fP P b H' op:=by
  grind [Gc]
 rw[f];have j: ∀d,cn P items ow i d ev H op=cn P items ow i d b H' op:=fun d=>Ga h c
 grind
theorem cG {i:Nat} {d:Option Tmp} (h:kW ops c d) (t:TV):cL P items ow ops i c (s.put d t)=cL P items ow ops i c s:=by
 unfold cL;rw[Oe h,fE];split
 ·exact(tQ (fun x b=>(W0 s d t (h.op x b)).symm) (fun x _ t _=>En t) (.inl rfl)).symm
 ·rfl
 rfl
theorem rI {i:Nat} (g:kV s) (f:Cy s.H H') (b: ∀e G,fP P e G c.op=none):cL P items ow ops i c ⟨s.tmps,H'⟩=cL P items ow ops i c s:=by
 unfold cL;rw[show gate ops c ⟨s.tmps,H'⟩=gate ops c s from rfl];split
 ·refine(tQ (fun x _=>?_) (fun x _ t h=>Em (eR g h) f) (.inr b)).symm;rfl
 ·rfl
 rfl
theorem Ag {i:Nat} (b:oQ c.op=true) {out:RO} (h:cL P items ow ops i c s=some out): ∃t,out= .val t:=by
 unfold cL jc at h;grind [Option.map_eq_some_iff]
theorem xY {i:Nat} (e:oQ c.op=true) (b:List TV) (H H':OH):cL P items ow ops i c ⟨b,H⟩=cL P items ow ops i c ⟨b,H'⟩:=by
 unfold cL jc;rw[show gate ops c ⟨b,H⟩=gate ops c ⟨b,H'⟩from rfl];simp only[e,if_true];rfl
theorem rJ {i:Nat} (g:oQ c.op=true) (k:Nat->Nat->Bool) (H':OH):cL P items ow ops i c ⟨s.tmps.map (aP k),H'⟩=some (.val e)↔ ∃t,cL P items ow ops i c s=some (.val t)/\e=aP k t:=by
 unfold cL jc;rw[KY];cases gate ops c s with
 |none=>simp
 |some b=>
  cases b with
  |false=>
   simp only[Option.some.injEq,RO.val.injEq];constructor
   ·rintro rfl;exact⟨_,rfl,rfl⟩
   rintro⟨t,rfl,rfl⟩;rfl
  |true=>
   simp only[g,if_true];have f:jE P (AS.ev ⟨s.tmps.map (aP k),H'⟩) c.op=(jE P s.ev c.op).map (aP k):=by
    grind [KR,wg,SZ]
   rw[f];cases jE P s.ev c.op with
   |none=>simp
   |some t=>
    grind
theorem PF (b:List TV) (H:OH) (d:Option Tmp) (t:TV):AS.put ⟨b,H⟩ d t=⟨(AS.put ⟨b,H⟩ d t).tmps,H⟩:=by cases d<;>rfl
theorem Jb (s:AS) (k:Nat->Nat->Bool) (H':OH) (d:Option Tmp) (t:TV):(⟨(s.put d t).tmps.map (aP k),H'⟩:AS)=AS.put ⟨s.tmps.map (aP k),H'⟩ d (aP k t):=by
 cases d with
 |none=>rfl
 |some d=>simp_all[AS.put]
def Yv (P:Program) (b c:Oper):Prop:=oQ b.op=true\/oQ c.op=true\/((∀e G,fP P e G b.op=none)/\ ∀e G,fP P e G c.op=none)
theorem qo {d:Option Tmp} {out:RO} (g: ∀q,out≠ .wr q) (h:ca d s out=some s1): ∃t b,s1=AS.put ⟨s.tmps,b⟩ d t/\Cy s.H b/\((b=s.H/\out= .val t)\/ ∃e o l,d=some e/\s.H e=[]/\b=ax s.H e (o::l)/\out= .new t o l):=by
 cases out with
 |val t=>simp only[ca]at h;injection h with h;exact⟨t,s.H,h.symm,fun _ _=>rfl,.inl ⟨rfl,rfl⟩⟩
 |new t o l=>
  simp only[ca]at h;cases d with
  |none=>cases h
  |some e=>
   simp only at h;split at h
   ·rename_i c;injection h with h
    refine⟨t,ax s.H e (o::l),h.symm,fun a f=>?_,.inr ⟨e,o,l,rfl,c,rfl,rfl⟩⟩;grind [aG]
   cases h
 |wr q=>grind
theorem L7 {i j:Nat} {m:Oper} (hl:kV s) (v:kW ops m c.dst) (w:kW ops c m.dst) (U: ∀k,c.dst=some k->m.dst≠some k) (ad:Yv P c m) (f:aU P items ow ops i c s=some s1) (g:aU P items ow ops j m s1=some s'): ∃s2,aU P items ow ops j m s=some s2/\aU P items ow ops i c s2=some s':=by
 rw[bN]at f g;obtain⟨ui,n,f⟩:=aaG.1 f;obtain⟨uj,b,g⟩:=aaG.1 g;by_cases z:oQ c.op=true
 ·obtain⟨t,rfl⟩:=Ag z n;simp only[ca]at f;injection f with f
  subst f;rw[cG v]at b;cases uj with
  |val u=>
   grind [ca,bN,cG,fL]
  |new u o l=>
   simp only[ca,fE]at g;cases M:m.dst with
   |none=>grind
   |some e=>
    rw[M]at g;simp only at g;split at g
    ·rename_i hH;injection g with g
     subst g;refine⟨AS.put ⟨s.tmps,ax s.H e (o::l)⟩ (some e) u,by grind [bN,ca],?_⟩;rw[bN,<- M,cG w,xY z s.tmps _ s.H];rw[show(⟨s.tmps,s.H⟩:AS)=s from rfl,n];simp only[acd,ca];rw[fL _ u t (fun k C x=>U k x (by rw[C]))]
     congr 2
     cases c.dst<;>rfl
    cases g
  |wr q=>
   simp only[ca]at g;injection g with g
   subst g;refine⟨AS.put ⟨s.tmps.map (aP q.k),q.H⟩ m.dst q.t,by rw[bN,b];rfl,?_⟩;rw[bN,cG w,(rJ z q.k q.H).2 ⟨t,n,rfl⟩];grind [ca,Jb,fL]
 by_cases A:oQ m.op=true
 ·obtain⟨u,rfl⟩:=Ag A b;simp only[ca]at g;injection g with g
  subst g;cases ui with
  |val t=>
   grind [ca,cG,bN,fL]
  |new t o l=>
   simp only[ca]at f;cases B:c.dst with
   |none=>grind
   |some e=>
    rw[B]at f;simp only at f;split at f
    ·rename_i hH;injection f with f
     subst f;rw[<- B,cG v,xY A s.tmps _ s.H,show(⟨s.tmps,s.H⟩:AS)=s from rfl]at b;refine⟨s.put m.dst u,by rw[bN,b];rfl,?_⟩;rw[bN,cG w,n];simp only[acd,ca,fE,B,hH];rw[fL _ t u (fun k C=>U k (by grind))]
     congr 2
     cases m.dst<;>rfl
    cases f
  |wr q=>
   simp only[ca]at f;injection f with f
   subst f;rw[cG v]at b;obtain⟨u0,hu0,rfl⟩:=(rJ A q.k q.H).1 b;refine⟨s.put m.dst u0,by rw[bN,hu0];rfl,?_⟩;grind [bN,cG,ca,Jb,fL]
 obtain⟨I,J⟩:(∀e G,fP P e G c.op=none)/\ ∀e G,fP P e G m.op=none:=by
  rcases ad with h|h|h
  ·grind
  ·grind
  exact h
 have y: ∀{i:Nat} {o:Oper} {s:AS} {u:RO},(∀e G,fP P e G o.op=none)->cL P items ow ops i o s=some u-> ∀q,u≠ .wr q:=fun{i o s u} hD r q hq=>by
  subst hq;unfold cL jc at r;split at r
  ·split at r
   ·simp_all
   split at r
   ·simp_all
   rw[hD]at r;simp only at r;split at r
   ·cases r
   unfold LC at r;grind
  ·cases r
  cases r
 obtain⟨t,Q,rfl,Z,K⟩:=qo (y I n) f;rw[cG v,rI hl Z J]at b;obtain⟨u,R,rfl,aa,L⟩:=qo (y J b) g;simp only[fE]at L aa
 -- what j does to s alone
 have hj: ∃p,aU P items ow ops j m s=some (AS.put ⟨s.tmps,p⟩ m.dst u)/\Cy s.H p/\((p=s.H/\R=Q)\/ ∃e o l,m.dst=some e/\p=ax s.H e (o::l)/\R=ax Q e (o::l)):=by
  rcases L with⟨F,T⟩|⟨e,o,l,F,T,e3,e4⟩
  ·exact⟨s.H,by rw[bN,b,T];rfl,fun _ _=>rfl,.inl ⟨rfl,F⟩⟩
  have ae:s.H e=[]:=by
   rcases K with⟨D,_⟩|⟨E,W,V,D,S,X,_⟩
   ·grind
   rw[X,aG (by grind)]at T;exact T
  refine⟨ax s.H e (o::l),by grind [bN,ca],fun a ha=>aG (by grind),.inr ⟨e,o,l,F,rfl,e3⟩⟩
 obtain⟨p,ac,ab,N⟩:=hj;refine⟨_,ac,?_⟩;rw[bN,cG w,rI hl ab I,n];simp only[acd];rcases K with⟨D,S⟩|⟨E,W,V,D,S,X,c4⟩
 ·subst S;simp only[ca];rw[fL _ u t (fun k C x=>U k x (by rw[C]))]
  congr 1
  have:p=R:=by
   grind
  rw[this,PF s.tmps Q,D];cases c.dst<;>rfl
 subst c4;have Y:p E=[]:=by
  rcases N with⟨O,_⟩|⟨e,o,l,q0,O,_⟩
  ·grind
  rw[O,aG (by grind)];exact S
 simp only[ca,D,fE,Y];have F:(⟨(AS.put ⟨s.tmps,p⟩ m.dst u).tmps,ax p E (W::V)⟩:AS)=AS.put ⟨s.tmps,ax p E (W::V)⟩ m.dst u:=by cases m.dst<;>rfl
 rw[F,fL _ u t (fun k C x=>U k (by grind) (by rw[C]))]
 congr 1
 have:ax p E (W::V)=R:=by
  rcases N with⟨O,q2⟩|⟨e,o,l,q0,O,q2⟩
  ·grind
  rw[O,q2,X];grind [aM,aG]
 rw[this,PF s.tmps Q];rfl
end
end
end Go.Proofs.YtalmoejhjceflaaGreat
