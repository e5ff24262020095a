/-
  Part 7 of a proof (walks and plain facts).
-/
import Derived.Test.YtalmoejhjceflaaGreatP05
set_option linter.all false
set_option maxRecDepth 100000
set_option maxHeartbeats 64000000
namespace Go.Proofs.YtalmoejhjceflaaGreat
open Go.RowKit
variable {b:Operand->Option TV} {c:Oper} {e:TV} {f:OObj} {n:Nat}
section
section
variable {P:Program} {s s':AS} {H H':OH}
def A9 (H H':OH):Prop:= ∀a,H a≠[]->H' a=H a
def rR (H H':OH):AV->Prop
 | .sl a _ _ _=>H' a=H a
 | .ptr a _ _ _=>H' a=H a
 | .fn _ a _=>H' a=H a
 |_=>True
def kG (H H':OH):TV->Prop
 | .one x=>rR H H' x
 | .agg b=> ∀x∈b,rR H H' x
 | .fn _ b=> ∀x∈b,rR H H' x
 | .tup c=> ∀t∈c,∀x∈t.2,rR H H' x
theorem kq {x:AV} (h:eP H x) (g:A9 H H'):rR H H' x:=by
 cases x with
 |sl a _ _ _=>exact g a h
 |ptr a _ _ _=>exact g a h
 |fn _ a _=>exact g a h.1
 |p x=>trivial
 |junk=>trivial
theorem C0 (h:fF H e) (g:A9 H H'):kG H H' e:=by
 cases e with
 |one x=>exact kq h g
 |agg c=>exact fun x b=>kq (h x b) g
 |fn f c=>exact fun x b=>kq (h x b) g
 |tup l=>exact fun e j x b=>kq (h e j x b) g
theorem ku (x:AV):rR H H x:=by cases x<;>first|rfl|trivial
theorem C1 (t:TV):kG H H t:=by
 cases t with
 |one x=>exact ku x
 |agg b=>exact fun x _=>ku x
 |fn f b=>exact fun x _=>ku x
 |tup c=>exact fun t _ x _=>ku x
theorem uV {ev f:Operand->Option TV} {op:Op} (h: ∀x∈op.operands,ev x=f x):jp P ev op=jp P f op:=by
 cases op<;>simp only[Op.operands]at h<;>simp only[jp]
 case call c=>
  have e:c.args.toList.map ev=c.args.toList.map f:=Yc fun x g=>h x (by simp only[Call.operands,Array.mem_append];exact .inr (Array.mem_toList_iff.1 g))
  unfold VQ;rw[e]
 case move x=>exact h x (by simp)
 case assign x=>exact h x (by simp)
 case pick c a b=>rw[h c (by simp),h a (by simp),h b (by simp)]
 case binOp op t x y t'=>rw[h x (by simp),h y (by simp)]
 case unOp op t x=>rw[h x (by simp)]
 case convert a b x=>rw[h x (by simp)]
 case extract x k=>rw[h x (by simp)]
theorem B8 (k:Nat->Nat->Bool): ∀(c e:List AV),LT (c.map (aL k)) (e.map (aL k))=LT c e
 |[],[]=>rfl
 |[],_::_=>rfl
 |x::c,[]=>by
  simp only[X9,Yu];cases x with
  |p x=>cases x with
   |raw v=>cases v<;>rfl
   |sl _=>rfl
   |ptr _=>rfl
  |sl a r b len=>simp only[aL];split<;>rfl
  |ptr a r i j=>simp only[aL];split<;>rfl
  |fn f a g=>simp only[aL];split<;>rfl
  |junk=>rfl
 |x::c,y::e=>by
  have h:=B8 k c e;simp only[X9];cases x with
  |p x=>cases x with
   |raw v=>
    cases v
    case int k1 a=>
     cases y with
     |p y=>cases y with
      |raw u=>cases u<;>first|rfl|simp only[aL,LT,h]
      |sl _=>rfl
      |ptr _=>rfl
     |sl a r b len=>simp only[aL];split<;>rfl
     |ptr a r i j=>simp only[aL];split<;>rfl
     |fn f a g=>simp only[aL];split<;>rfl
     |junk=>rfl
    all_goals rfl
   |sl _=>rfl
   |ptr _=>rfl
  |sl a r b len=>simp only[aL];split<;>rfl
  |ptr a r i j=>simp only[aL];split<;>rfl
  |fn f a g=>simp only[aL];split<;>rfl
  |junk=>rfl
theorem Js (k:Nat->Nat->Bool) (t:TV):vH (aM k t)=vH t:=by
 cases t with
 |one x=>
  cases x with
  |p x=>rfl
  |sl a r c len=>simp only[aM,aL];split<;>rfl
  |ptr a r i j=>simp only[aM,aL];split<;>rfl
  |fn f a e=>simp only[aM,aL];split<;>rfl
  |junk=>rfl
 |agg b=>rfl
 |fn f b=>rfl
 |tup g=>rfl
theorem vI (k:Nat->Nat->Bool) (t:Option TV):(t.map (aM k)).bind vH=t.bind vH:=by
 cases t with
 |none=>rfl
 |some t=>exact Js k t
theorem CD (k:Nat->Nat->Bool) (f:Int->Int->Int) (l:List (Option TV)):OU f (l.map (Option.map (aM k)))=(OU f l).map (aM k):=by
 have key: ∀(t:TV) v,aM k t= .one (.p (.raw v))↔t= .one (.p (.raw v)):=fun t v=>by
  cases t with
  |one x=>
   cases x with
   |p x=>exact Iff.rfl
   |sl a r z len=>simp only[aM,aL];split<;>simp
   |ptr a r i j=>simp only[aM,aL];split<;>simp
   |fn f a A=>simp only[aM,aL];split<;>simp
   |junk=>simp[aM,aL]
  |agg n=>simp[aM]
  |fn f n=>simp[aM]
  |tup B=>simp[aM]
 have g: ∀(o:Option TV) v,o.map (aM k)=some (.one (.p (.raw v)))->o=some (.one (.p (.raw v))):=fun o v h=>by
  cases o with
  |none=>cases h
  |some t=>injection h with h;rw[(key t v).1 h]
 cases h:OU f l with
 |some t=>
  obtain⟨c,m,a,b,rfl,rfl⟩:=kZ h;rfl
 |none=>
  cases w:OU f (l.map (Option.map (aM k)))with
  |none=>rfl
  |some t=>
   obtain⟨c,m,a,b,e,_⟩:=kZ w;obtain⟨x,y,rfl,q,u⟩:=zV e;rw[g _ _ q,g _ _ u]at h;cases h
theorem IQ (k:Nat->Nat->Bool) {ev:Operand->Option TV} {op:Op}:jp P (fun x=>(ev x).map (aM k)) op=(jp P ev op).map (aM k):=by
 have key: ∀(t:TV) v,aM k t= .one (.p (.raw v))↔t= .one (.p (.raw v)):=fun t v=>by
  cases t with
  |one x=>
   cases x with
   |p x=>exact Iff.rfl
   |sl a r Q len=>simp only[aM,aL];split<;>simp
   |ptr a r i j=>simp only[aM,aL];split<;>simp
   |fn f a U=>simp only[aM,aL];split<;>simp
   |junk=>simp[aM,aL]
  |agg z=>simp[aM]
  |fn f z=>simp[aM]
  |tup G=>simp[aM]
 cases op<;>simp only[jp]<;>try rfl
 case call c=>
  unfold VQ;have e:c.args.toList.map (fun x=>(ev x).map (aM k))=(c.args.toList.map ev).map (Option.map (aM k)):=by rw[Y0];rfl
  rw[e];split
  ·exact CD k _ _
  ·exact CD k _ _
  rfl
 case pick c a b=>
  cases R:ev c with
  |none=>rfl
  |some t=>
   simp only[Yp];by_cases m:t= .one (.p (.raw (.bool true)))
   ·subst m;rfl
   by_cases C:t= .one (.p (.raw (.bool false)))
   ·subst C;rfl
   have D: ∀b,aM k t≠ .one (.p (.raw (.bool b))):=fun b h=>by
    have:=(key t _).1 h;cases b
    ·exact C this
    exact m this
   split
   ·rename_i h;injection h with h;exact absurd h (D _)
   ·rename_i h;injection h with h;exact absurd h (D _)
   split
   ·rename_i h;injection h with h;exact absurd h m
   ·rename_i h;injection h with h;exact absurd h C
   rfl
 case binOp op t x y t'=>
  by_cases w:EN y=true
  ·rw[if_pos w,if_pos w];unfold yp;rw[vI,vI];split<;>rfl
  rw[if_neg w,if_neg w];cases F:ev x with
  |none=>rfl
  |some B=>
   cases T:ev y with
   |none=>
    simp only[Yp,Zo];split
    ·rename_i h;cases h
    ·rename_i h;cases h
    rfl
   |some I=>
    simp only[Yp];by_cases m: ∃a b,B= .one (.p (.raw a))/\I= .one (.p (.raw b))
    ·obtain⟨a,b,rfl,rfl⟩:=m;simp only[aM,aL];cases xZ (uI P t) op a b<;>rfl
    by_cases C: ∃J K,B= .agg J/\I= .agg K
    ·obtain⟨J,K,rfl,rfl⟩:=C;simp only[aM,B9,YB,B8];split
     ·split<;>rfl
     ·split<;>rfl
     rfl
    have A: ∀(t:TV) z,aM k t= .agg z-> ∃E,t= .agg E:=fun t z O=>by
     cases t<;>simp[aM]at O;exact⟨_,rfl⟩
    split
    ·rename_i a b g o;injection g with g
     injection o with o
     exact absurd ⟨a,b,(key _ _).1 g,(key _ _).1 o⟩ m
    ·rename_i a b g o;injection g with g
     injection o with o
     obtain⟨L,D⟩:=A _ _ g;obtain⟨M,N⟩:=A _ _ o;exact absurd ⟨L,M,D,N⟩ C
    split
    ·rename_i a b g o;injection g with g
     injection o with o
     exact absurd ⟨a,b,g,o⟩ m
    ·rename_i a b g o;injection g with g
     injection o with o
     exact absurd ⟨a,b,g,o⟩ C
    rfl
 case unOp op t x=>
  cases F:ev x with
  |none=>rfl
  |some B=>
   simp only[Yp];by_cases m: ∃a,B= .one (.p (.raw a))
   ·obtain⟨a,rfl⟩:=m;simp only[aM,aL];cases IV op a<;>rfl
   split
   ·rename_i a g;injection g with g;exact absurd ⟨a,(key _ _).1 g⟩ m
   split
   ·rename_i a g;injection g with g;exact absurd ⟨a,g⟩ m
   rfl
 case convert a b x=>
  cases F:ev x with
  |none=>rfl
  |some B=>
   simp only[Yp];by_cases m: ∃q n,B= .one (.p (.raw (.int q n)))
   ·obtain⟨q,n,rfl⟩:=m;simp only[aM,aL];cases P.underlying a with
    |none=>rfl
    |some u=>cases xf P b<;>rfl
   split
   ·rename_i q n _ _ g _ _;injection g with g;exact absurd ⟨_,_,(key _ _).1 g⟩ m
   split
   ·rename_i q n _ _ g _ _;injection g with g;exact absurd ⟨_,_,g⟩ m
   rfl
 case extract x i=>
  cases F:ev x with
  |none=>rfl
  |some B=>
   cases B with
   |one y=>rfl
   |agg z=>rfl
   |fn f z=>rfl
   |tup G=>
    simp only[Yp,aM,XK];cases S:G[i]? with
    |none=>rfl
    |some t=>
     obtain⟨b,z⟩:=t;cases b with
     |true=>rfl
     |false=>
      cases z with
      |nil=>rfl
      |cons y l=>cases l<;>rfl
theorem iJ {ev:Operand->Option TV} {x:Option Operand} {d:Nat} (h: ∀y,x=some y->ev y=b y):dM ev x d=dM b x d:=by
 cases x with
 |none=>rfl
 |some y=>simp only[dM,h y rfl]
theorem ve {g:List (Nat×Nat)} {ev b:Operand->Option TV}: ∀(parts:List (Nat×Operand)) (e:List AV),(∀p∈parts,ev p.2=b p.2)->iN g ev e parts=iN g b e parts
 |[],e,_=>rfl
 |(f,x)::c,e,h=>by
  simp only[iN,h (f,x) (by simp)];split
  ·split
   ·exact ve c _ (fun p j=>h p (by simp[j]))
   rfl
  rfl
theorem yb {n:Nat} {ev b:Operand->Option TV}: ∀(parts:List (Nat×Operand)) (i:Nat),(∀p∈parts,ev p.2=b p.2)->oQ ev n i parts=oQ b n i parts
 |[],i,_=>rfl
 |(f,x)::c,i,h=>by
  simp only[oQ,h (f,x) (by simp),yb c (i+1) (fun p e=>h p (by simp[e]))]
theorem iM {ev b:Operand->Option TV}: ∀(l:List Operand),(∀x∈l,ev x=b x)->fd ev l=fd b l
 |[],_=>rfl
 |x::l,h=>by simp only[fd,h x (by simp),iM l (fun y c=>h y (by simp[c]))]
theorem uX {ev:Operand->Option TV} {op:Op} (h: ∀x∈op.operands,ev x=b x) (A: ∀x∈op.operands,∀t,ev x=some t->kG H H' t):bN P ev H op=bN P b H' op:=by
 cases op<;>simp only[Op.operands]at h A<;>try (simp only[bN];done)
 case load t x=>
  simp only[bN,<- h x (by simp)];cases q:ev x with
  |none=>rfl
  |some o=>
   have:=A x (by simp) o q;cases o with
   |one y=>
    cases y with
    |ptr a r i j=>simp only[show H' a=H a from this]
    |p y=>cases y<;>rfl
    |sl a r u len=>rfl
    |junk=>rfl
    |fn=>rfl
   |agg n=>rfl
   |fn f n=>rfl
   |tup B=>rfl
 case indexAddr t x ix=>
  simp only[bN,<- h x (by simp),<- h ix (by simp)];cases di P t with
  |none=>
   cases q:ev x with
   |none=>rfl
   |some o=>
    cases o with
    |one y=>
     cases y with
     |p y=>
      cases y with
      |raw v=>
       cases v with
       |pointer a=>
        cases a with
        |none=>rfl
        |some a=>
         obtain⟨g,u,F⟩:=a;cases F<;>rfl
       |_=>rfl
      |sl G=>rfl
      |ptr n=>rfl
     |sl a r u len=>rfl
     |ptr a r i j=>rfl
     |junk=>rfl
     |fn=>rfl
    |agg n=>rfl
    |fn f n=>rfl
    |tup B=>rfl
  |some e=>
   cases q:ev x with
   |none=>rfl
   |some o=>
    have:=A x (by simp) o q;cases o with
    |one y=>
     cases y with
     |sl a r u len=>simp only[show H' a=H a from this]
     |p y=>cases y<;>rfl
     |ptr a r i j=>rfl
     |junk=>rfl
     |fn=>rfl
    |agg n=>rfl
    |fn f n=>rfl
    |tup B=>rfl
 case index t x ix=>simp only[bN,<- h x (by simp),<- h ix (by simp)]
 case fieldAddr t x f=>simp only[bN,<- h x (by simp)]
 case field t x f=>simp only[bN,<- h x (by simp)]
 case slice t x lo hi mx=>
  cases mx with
  |some m=>
   cases lo with
   |none=>simp only[bN]
   |some lo=>
   cases hi with
   |none=>simp only[bN]
   |some hi=>
   simp only[bN,<- h x (by simp)];have z:dM ev (some lo) 0=dM b (some lo) 0:=iJ fun y l=>h y (by injection l with l;subst l;simp)
   have w:dM ev (some hi) 0=dM b (some hi) 0:=iJ fun y l=>h y (by injection l with l;subst l;simp)
   have C:dM ev (some m) 0=dM b (some m) 0:=iJ fun y l=>h y (by injection l with l;subst l;simp)
   simp only[z,w,C];cases di P t with
   |none=>rfl
   |some e=>
    cases q:ev x with
    |none=>rfl
    |some o=>
     have:=A x (by simp) o q;cases o with
     |one y=>
      cases y with
      |sl a r u len=>simp only[show H' a=H a from this]
      |p y=>cases y<;>rfl
      |ptr a r i j=>rfl
      |junk=>rfl
      |fn=>rfl
     |agg n=>rfl
     |fn f n=>rfl
     |tup B=>rfl
  |none=>
   simp only[bN,<- h x (by simp)];have z: ∀d,dM ev lo d=dM b lo d:=fun d=>iJ fun y l=>h y (by subst l;simp)
   have w: ∀d,dM ev hi d=dM b hi d:=fun d=>iJ fun y l=>h y (by subst l;cases lo<;>simp)
   simp only[z,w];cases di P t with
   |none=>rfl
   |some e=>
    cases q:ev x with
    |none=>rfl
    |some o=>
     have:=A x (by simp) o q;cases o with
     |one y=>
      cases y with
      |sl a r u len=>simp only[show H' a=H a from this]
      |p y=>cases y<;>rfl
      |ptr a r i j=>rfl
      |junk=>rfl
      |fn=>rfl
     |agg n=>rfl
     |fn f n=>rfl
     |tup B=>rfl
 case build t parts=>
  simp only[bN];have: ∀D n,iN D ev n parts.toList=iN D b n parts.toList:=fun D n=>ve _ _ (fun p E=>h p.2 (by simp only[List.mem_toArray,XR];exact⟨p,E,rfl⟩))
  simp only[this]
 case nilCheck x=>simp only[bN,<- h x (by simp)]
 case makeFunc fn first captured=>
  cases fn with
  |func f=>
   simp only[bN];rw[iM captured.toList (fun x q=>h x (by simp at q⊢;exact .inr q))]
  |_=>simp only[bN]
 case call c=>
  obtain⟨callee,⟨args⟩,⟨argTypes⟩⟩:=c;cases callee with
  |builtin g=>
   cases g<;>try (simp only[bN];done)
   simp only[bN];simp only[Call.operands]at h;split
   ·rename_i x t;rw[h x (by simp)]
   rfl
  |value f=>simp only[bN]
  |invoke r m=>simp only[bN]
 all_goals rfl
theorem T7 (x:PV):gI H' (.one (.p x))=gI H (.one (.p x)):=by
 have key: ∀G:OH,gI G (.one (.p x))= .one (.p x)\/(x= .raw (.slice none 0 0)/\gI G (.one (.p x))= .one (.p (.sl []))):=fun G=>by
  unfold gI;split
  ·rename_i b;cases b
  ·rename_i b;injection b with b;injection b with b;exact .inr ⟨b,rfl⟩
  exact .inl rfl
 by_cases f:x= .raw (.slice none 0 0)
 ·subst f;rfl
 rcases key H with c|⟨c,_⟩
 ·rcases key H' with e|⟨e,_⟩
  ·rw[c,e]
  exact absurd e f
 exact absurd c f
theorem T6 (x:PV):gf H' (.one (.p x))=gf H (.one (.p x)):=by
 unfold gf;split
 ·rename_i b;injection b with b;injection b with b;subst b;rfl
 ·rename_i b;injection b with b;injection b with b;subst b;rfl
 ·rename_i b;cases b
 rfl
theorem jz (c:kG H H' e):gI H' e=gI H e/\ ∀b,d8 b H' e=d8 b H e:=by
 cases e with
 |one x=>
  cases x with
  |sl a r h len=>exact⟨by simp only[gI,show H' a=H a from c],fun b=>by simp only[d8,show H' a=H a from c]⟩
  |p x=>exact⟨T7 x,fun b=>rfl⟩
  |ptr a r i j=>exact⟨rfl,fun b=>rfl⟩
  |junk=>exact⟨rfl,fun b=>rfl⟩
  |fn=>exact⟨rfl,fun b=>rfl⟩
 |agg g=>exact⟨rfl,fun b=>rfl⟩
 |fn f g=>exact⟨rfl,fun b=>rfl⟩
 |tup l=>exact⟨rfl,fun b=>rfl⟩
theorem Jp (c:kG H H' e):gf H' e=gf H e:=by
 cases e with
 |one x=>
  cases x with
  |sl a r g len=>simp only[gf,show H' a=H a from c]
  |p x=>exact T6 x
  |ptr a r i j=>rfl
  |junk=>rfl
  |fn=>rfl
 |agg b=>rfl
 |fn f b=>rfl
 |tup h=>rfl
theorem Et {v:List (dc P)} {T:List Nat} {i d:Nat} {ev:Operand->Option TV} {op:Op} (h: ∀x∈op.operands,ev x=b x) (F: ∀x∈op.operands,∀t,ev x=some t->kG H H' t):b8 P v T i d ev H op=b8 P v T i d b H' op:=by
 cases op<;>simp only[Op.operands]at h F<;>try (simp only[b8];done)
 case box e x=>simp only[b8,<- h x (by simp)]
 case makeSlice t l c=>simp only[b8,<- h l (by simp),<- h c (by simp)]
 case buildSlice t n parts=>
  simp only[b8];have: ∀n i,oQ ev n i parts.toList=oQ b n i parts.toList:=fun n i=>yb _ _ (fun p X=>h p.2 (by simp only[List.mem_toArray,XR];exact⟨p,X,rfl⟩))
  simp only[this]
 case call c=>
  obtain⟨callee,⟨args⟩,⟨argTypes⟩⟩:=c;simp only[Call.operands]at h F;cases callee with
  |value f=>
   have S:fd ev args=fd b args:=iM args (fun x M=>h x (by simp[M]));cases f<;>try (simp only[b8];done)
   ·rename_i k;simp only[b8];rw[<- S,<- h (.tmp k) (by simp)];cases q:Ef (ev (.tmp k))with
    |none=>cases List.find? (fun x=>x.i==i) v<;>cases fd ev args<;>rfl
    |some V=>
     obtain⟨f,o⟩:=V;cases G:fd ev args with
     |none=>cases List.find? (fun x=>x.i==i) v<;>rfl
     |some z=>
      have Q: ∀t∈o,kG H H' t:=fun t w=>by
       unfold Ef at q;split at q
       ·rename_i U Z L;injection q with q
        injection q with q A
        subst q A;have R:=F (.tmp k) (by simp) _ L;simp only[XR]at w;obtain⟨y,N,rfl⟩:=w;exact R y N
       ·rename_i U a qs L;injection q with q
        injection q with q A
        subst q A;have R:=F (.tmp k) (by simp) _ L;simp only[XR]at w;obtain⟨y,N,rfl⟩:=w;exact R
       ·split at q
        ·injection q with q
         injection q with q A
         subst q A;simp at w
        cases q
       cases q
      have B: ∀t∈z++o,kG H H' t:=fun t w=>by
       rcases YK.1 w with w|w
       ·obtain⟨j,W,rfl⟩:=YZ w;obtain⟨x,M,I⟩:=(bU G).2 j _ (X0 W);exact F x (by simp[XH M]) _ I
       exact Q t w
      have J:(z++o).map (gI H')=(z++o).map (gI H):=Yc fun t w=>(jz (B t w)).1
      have O: ∀g,(z++o).all (d8 g H')=(z++o).all (d8 g H):=fun g=>by
       rw[Bool.eq_iff_iff];simp only[XO];exact⟨fun E t w=>by rw[<- (jz (B t w)).2 g];exact E t w,fun E t w=>by rw[(jz (B t w)).2 g];exact E t w⟩
      cases List.find? (fun x=>x.i==i) v with
      |none=>rfl
      |some u=>
       have K:(u.f=f/\(z++o).map (gI H')=u.args/\(z++o).all (d8 u.res.plain H')=true/\(!u.res.fam.isEmpty||noRefTV u.res.r)=true)↔(u.f=f/\(z++o).map (gI H)=u.args/\(z++o).all (d8 u.res.plain H)=true/\(!u.res.fam.isEmpty||noRefTV u.res.r)=true):=by rw[J,O]
       by_cases D:u.f=f/\(z++o).map (gI H)=u.args/\(z++o).all (d8 u.res.plain H)=true/\(!u.res.fam.isEmpty||noRefTV u.res.r)=true
       ·simp only[];rw[if_pos D,if_pos (K.2 D)]
       simp only[];rw[if_neg D,if_neg (fun h=>D (K.1 h))]
   rename_i f;simp only[b8];rw[<- S];cases G:fd ev args with
   |none=>cases List.find? (fun x=>x.i==i) v<;>rfl
   |some C=>
    have B: ∀t∈C,kG H H' t:=fun t w=>by
     obtain⟨k,L,rfl⟩:=YZ w;obtain⟨x,M,I⟩:=(bU G).2 k _ (X0 L);exact F x (by simp[XH M]) _ I
    have J:C.map (gI H')=C.map (gI H):=Yc fun t w=>(jz (B t w)).1
    have O: ∀g,C.all (d8 g H')=C.all (d8 g H):=fun g=>by
     rw[Bool.eq_iff_iff];simp only[XO];exact⟨fun E t w=>by rw[<- (jz (B t w)).2 g];exact E t w,fun E t w=>by rw[(jz (B t w)).2 g];exact E t w⟩
    cases List.find? (fun x=>x.i==i) v with
    |none=>rfl
    |some u=>
     have K:(u.f=f/\C.map (gI H')=u.args/\C.all (d8 u.res.plain H')=true/\(!u.res.fam.isEmpty||noRefTV u.res.r)=true)↔(u.f=f/\C.map (gI H)=u.args/\C.all (d8 u.res.plain H)=true/\(!u.res.fam.isEmpty||noRefTV u.res.r)=true):=by rw[J,O]
     by_cases D:u.f=f/\C.map (gI H)=u.args/\C.all (d8 u.res.plain H)=true/\(!u.res.fam.isEmpty||noRefTV u.res.r)=true
     ·simp only[];rw[if_pos D,if_pos (K.2 D)]
     simp only[];rw[if_neg D,if_neg (fun h=>D (K.1 h))]
  |builtin g=>
   cases g<;>try (simp only[b8];done)
   simp only[b8];split
   ·rename_i x y t t';rw[<- h x (by simp),<- h y (by simp)];have J:(ev y).bind (gf H')=(ev y).bind (gf H):=by
     cases N:ev y with
     |none=>rfl
     |some Y=>exact Jp (F y (by simp) Y N)
    rw[J]
   rfl
  |invoke r m=>simp only[b8]
end
end
section
inductive O9 where
 |val (t:TV)
 |new (t:TV) (o:OObj) (l:List OObj)
 |wr (q:DJ)
section
variable (P:Program) (items:List (dc P)) (ow:List Nat)
noncomputable def Fa (r:Option (TV×List OObj)):Option O9:=match r with
 |some (t,[])=>some (.val t)
 |some (t,o::l)=>some (.new t o l)
 |none=>none
noncomputable def kn (i:Nat) (d:Option Tmp) (op:Op) (ev:Operand->Option TV) (H:OH):Option O9:=
 if oN op then(jp P ev op).map .val
 else if xg op then(bN P ev H op).map .val
 else match fD P ev H op with
  |some q=>some (.wr q)
  |none=>match d with
   |none=>none
   |some d=>Fa (b8 P items ow i d ev H op)
def bW (d:Option Tmp) (s:AS):O9->Option AS
 | .val t=>some (s.put d t)
 | .new t o l=>match d with
  |some d=>(match s.H d with|[]=>some (AS.put ⟨s.tmps,aw s.H d (o::l)⟩ (some d) t)|_=>none)
  |none=>none
 | .wr q=>some (AS.put ⟨s.tmps.map (aM q.k),q.H⟩ d q.t)
theorem xK (i:Nat) (o:Oper) (s:AS):dL P items ow i o s=(kn P items ow i o.dst o.op s.ev s.H).bind (bW o.dst s):=by
 unfold dL kn;split
 ·cases jp P s.ev o.op<;>rfl
 split
 ·cases bN P s.ev s.H o.op<;>rfl
 cases fD P s.ev s.H o.op with
 |some q=>rfl
 |none=>
  cases e:o.dst with
  |none=>rfl
  |some d=>
   simp only;cases c:b8 P items ow i d s.ev s.H o.op with
   |none=>rfl
   |some b=>
    obtain⟨t,F⟩:=b;cases F with
    |nil=>rfl
    |cons f l=>simp only[Fa,YH,bW];cases s.H d<;>rfl
def gate (e:Array Oper) (o:Oper) (s:AS):Option Bool:=match o.guard with
 |none=>some true
 |some (g,c)=>match(e[g]?).bind (·.dst)with
  |none=>none
  |some d=>match s.tmps[d]? with
   |some (.one (.p (.raw (.bool b))))=>some (b==c)
   |some (.tup [])=>some false
   |_=>none
noncomputable def cu (b:Array Oper) (i:Nat) (o:Oper) (s:AS):Option O9:=match gate b o s with
 |some true=>kn P items ow i o.dst o.op s.ev s.H
 |some false=>some (.val .undef)
 |none=>none
theorem bD (h:Array Oper) (i:Nat) (o:Oper) (s:AS):aQ P items ow h i o s=(cu P items ow h i o s).bind (bW o.dst s):=by
 unfold aQ cu gate;cases u:o.guard with
 |none=>simp only;exact xK P items ow i o s
 |some m=>
  obtain⟨g,c⟩:=m;simp only;cases(h[g]?).bind (·.dst)with
  |none=>rfl
  |some d=>
   simp only;cases w:s.tmps[d]? with
   |none=>rfl
   |some t=>
    cases t with
    |agg l=>rfl
    |fn f l=>rfl
    |tup q=>cases q<;>rfl
    |one x=>
     cases x with
     |sl a r n len=>rfl
     |ptr a r i j=>rfl
     |fn=>rfl
     |junk=>rfl
     |p x=>
      cases x with
      |sl y=>rfl
      |ptr l=>rfl
      |raw v=>
       cases v<;>try rfl
       rename_i b;simp only;by_cases e:b=c
       ·subst e;simp only[if_true,beq_self_eq_true];exact xK P items ow i o s
       rw[if_neg e];have:(b==c)=false:=by simpa using e
       rw[this];rfl
variable {P} {items} {ow}
variable {ops:Array Oper} {s s1 s2 s':AS} {H H':OH}
theorem lg (s:AS) (d:Option Tmp) (t:TV) (k:Nat) (h: ∀e,d=some e->e≠k):(s.put d t).tmps[k]?=s.tmps[k]?:=by
 cases d with
 |none=>rfl
 |some e=>simp only[AS.put];exact Yy (h e rfl)
theorem Ud (s:AS) (d:Option Tmp) (t:TV) {x:Operand} (h: ∀e,d=some e->x≠ .tmp e):(s.put d t).ev x=s.ev x:=by
 cases x with
 |tmp k=>exact lg s d t k (fun e b c=>h e b (by rw[c]))
 |const v=>rfl
 |global g=>rfl
 |func f=>rfl
theorem fw (s:AS) {d e:Option Tmp} (t u:TV) (h: ∀k,d=some k->e≠some k):(s.put d t).put e u=(s.put e u).put d t:=by
 cases d with
 |none=>rfl
 |some d=>
  cases e with
  |none=>rfl
  |some e=>
   have:d≠e:=fun b=>h d rfl (by rw[b])
   simp only[AS.put];rw[List.set_comm _ _ this]
def kw (ops:Array Oper) (o:Oper) (d:Option Tmp):Prop:= ∀e,d=some e->e∉o.looksAt ops
theorem kw.op {d:Option Tmp} (h:kw ops c d): ∀x∈c.op.operands,∀e,d=some e->x≠ .tmp e:=fun x g e f b=>by
 subst b;exact h e f (List.mem_append_left _ (aaV.2 ⟨.tmp e,by simpa using g,rfl⟩))
theorem kw.gate {d:Option Tmp} (h:kw ops c d) {w:Bool} (j:c.guard=some (n,w)) {k:Tmp} (l:(ops[n]?).bind (·.dst)=some k): ∀e,d=some e->e≠k:=fun e f b=>by
 subst b;refine h e f (List.mem_append_right _ ?_);simp only[j,l]
 simp
theorem L3 {d:Option Tmp} (h:kw ops c d) (t:TV):gate ops c (s.put d t)=gate ops c s:=by
 unfold gate;cases f:c.guard with
 |none=>rfl
 |some e=>
  obtain⟨g,b⟩:=e;simp only;cases j:(ops[g]?).bind (·.dst)with
  |none=>rfl
  |some k=>simp only;rw[lg s d t k (h.gate f j)]
theorem P5 (k:Nat->Nat->Bool) (H':OH) (x:Operand):AS.ev ⟨s.tmps.map (aM k),H'⟩ x=(s.ev x).map (aM k):=by
 cases x with
 |tmp t=>simp only[AS.ev,XK]
 |const v=>
  simp only[AS.ev,Yp]
  congr 1
  unfold nR;split
  ·split
   ·simp only[aM];congr 1;rw[Y0];rfl
   rfl
  split<;>rfl
 |global g=>rfl
 |func f=>rfl
theorem IX (k:Nat->Nat->Bool) (H':OH):gate ops c ⟨s.tmps.map (aM k),H'⟩=gate ops c s:=by
 unfold gate;cases w:c.guard with
 |none=>rfl
 |some m=>
  obtain⟨g,h⟩:=m;simp only;cases y:(ops[g]?).bind (·.dst)with
  |none=>rfl
  |some e=>
   simp only[XK];cases s.tmps[e]? with
   |none=>rfl
   |some t=>
    cases t with
    |one x=>
     cases x with
     |p x=>rfl
     |sl a r n len=>simp only[Yp,aM,aL];cases k a r<;>rfl
     |ptr a r i j=>simp only[Yp,aM,aL];cases k a r<;>rfl
     |fn f a u=>simp only[Yp,aM,aL];generalize u.any (fun q=>k a q.1)=b;cases b<;>rfl
     |junk=>rfl
    |agg l=>rfl
    |fn f l=>rfl
    |tup v=>cases v<;>rfl
theorem Ew {ev:Operand->Option TV} {op:Op} (h: ∀x∈op.operands,ev x=b x):fD P ev H op=fD P b H op:=by
 cases op<;>simp only[Op.operands]at h<;>try (simp only[fD];done)
 case store t x y=>simp only[fD,<- h x (by simp),<- h y (by simp)]
 case call c=>
  obtain⟨callee,⟨args⟩,⟨argTypes⟩⟩:=c;simp only[Call.operands]at h;simp only[fD];split
  ·rename_i x y t e;rw[<- h x (by simp),<- h y (by simp)]
  rfl
theorem sI {i:Nat} {d:Option Tmp} {ev:Operand->Option TV} {op:Op} (h: ∀x∈op.operands,ev x=b x) (f: ∀x∈op.operands,∀t,ev x=some t->kG H H' t) (c:H'=H\/ ∀e G,fD P e G op=none):
  kn P items ow i d op ev H=kn P items ow i d op b H':=by
 unfold kn;rw[uV h,uX h f];have j:fD P ev H op=fD P b H' op:=by
  rcases c with rfl|c
  ·exact Ew h
  rw[c,c]
 rw[j];have g: ∀d,b8 P items ow i d ev H op=b8 P items ow i d b H' op:=fun d=>Et h f
 simp only[g]
theorem ca {i:Nat} {d:Option Tmp} (h:kw ops c d) (t:TV):cu P items ow ops i c (s.put d t)=cu P items ow ops i c s:=by
 unfold cu;rw[L3 h,fj];split
 ·exact(sI (fun x b=>(Ud s d t (h.op x b)).symm) (fun x _ t _=>C1 t) (.inl rfl)).symm
 ·rfl
 rfl
theorem qB {i:Nat} (g:kM s) (f:A9 s.H H') (b: ∀e G,fD P e G c.op=none):cu P items ow ops i c ⟨s.tmps,H'⟩=cu P items ow ops i c s:=by
 unfold cu;rw[show gate ops c ⟨s.tmps,H'⟩=gate ops c s from rfl];split
 ·refine(sI (fun x _=>?_) (fun x _ t h=>C0 (dW g h) f) (.inr b)).symm;cases x<;>rfl
 ·rfl
 rfl
theorem yL {i:Nat} (b:oN c.op=true) {out:O9} (h:cu P items ow ops i c s=some out): ∃t,out= .val t:=by
 unfold cu kn at h;split at h
 ·rw[if_pos b]at h;obtain⟨t,_,rfl⟩:=XI.1 h;exact⟨t,rfl⟩
 ·injection h with h;exact⟨_,h.symm⟩
 cases h
theorem wN {i:Nat} (e:oN c.op=true) (b:List TV) (H H':OH):cu P items ow ops i c ⟨b,H⟩=cu P items ow ops i c ⟨b,H'⟩:=by
 unfold cu kn;rw[show gate ops c ⟨b,H⟩=gate ops c ⟨b,H'⟩from rfl];simp only[e,if_true];rfl
theorem qC {i:Nat} (g:oN c.op=true) (k:Nat->Nat->Bool) (H':OH):cu P items ow ops i c ⟨s.tmps.map (aM k),H'⟩=some (.val e)↔ ∃t,cu P items ow ops i c s=some (.val t)/\e=aM k t:=by
 unfold cu kn;rw[IX];cases gate ops c s with
 |none=>simp
 |some b=>
  cases b with
  |false=>
   simp only[Option.some.injEq,O9.val.injEq];constructor
   ·rintro rfl;exact⟨_,rfl,rfl⟩
   rintro⟨t,rfl,rfl⟩;rfl
  |true=>
   simp only[g,if_true];have f:jp P (AS.ev ⟨s.tmps.map (aM k),H'⟩) c.op=(jp P s.ev c.op).map (aM k):=by
    rw[<- IQ];exact uV (fun x _=>P5 k H' x)
   rw[f];cases jp P s.ev c.op with
   |none=>simp
   |some t=>
    simp only[Yp,Option.some.injEq,O9.val.injEq];constructor
    ·rintro rfl;exact⟨t,rfl,rfl⟩
    rintro⟨t,rfl,rfl⟩;rfl
theorem Nj (b:List TV) (H:OH) (d:Option Tmp) (t:TV):AS.put ⟨b,H⟩ d t=⟨(AS.put ⟨b,H⟩ d t).tmps,H⟩:=by cases d<;>rfl
theorem G3 (s:AS) (k:Nat->Nat->Bool) (H':OH) (d:Option Tmp) (t:TV):(⟨(s.put d t).tmps.map (aM k),H'⟩:AS)=AS.put ⟨s.tmps.map (aM k),H'⟩ d (aM k t):=by
 cases d with
 |none=>rfl
 |some d=>simp only[AS.put,aaR]
def Vu (P:Program) (b c:Oper):Prop:=oN b.op=true\/oN c.op=true\/((∀e G,fD P e G b.op=none)/\ ∀e G,fD P e G c.op=none)
theorem pA {d:Option Tmp} {out:O9} (g: ∀q,out≠ .wr q) (h:bW d s out=some s1): ∃t b,s1=AS.put ⟨s.tmps,b⟩ d t/\A9 s.H b/\((b=s.H/\out= .val t)\/ ∃e o l,d=some e/\s.H e=[]/\b=aw s.H e (o::l)/\out= .new t o l):=by
 cases out with
 |val t=>simp only[bW]at h;injection h with h;exact⟨t,s.H,h.symm,fun _ _=>rfl,.inl ⟨rfl,rfl⟩⟩
 |new t o l=>
  simp only[bW]at h;cases d with
  |none=>cases h
  |some e=>
   simp only at h;split at h
   ·rename_i c;injection h with h
    refine⟨t,aw s.H e (o::l),h.symm,fun a f=>?_,.inr ⟨e,o,l,rfl,c,rfl,rfl⟩⟩;exact ay (by rintro rfl;exact f c)
   cases h
 |wr q=>exact absurd rfl (g q)
theorem J1 {i:Nat} {m:Oper} (hl:kM s) (C:kw ops m c.dst) (r:kw ops c m.dst) (A: ∀k,c.dst=some k->m.dst≠some k) (ag:Vu P c m) (f:aQ P items ow ops i c s=some s1) (g:aQ P items ow ops n m s1=some s'): ∃s2,aQ P items ow ops n m s=some s2/\aQ P items ow ops i c s2=some s':=by
 rw[bD]at f g;obtain⟨ui,p,f⟩:=X4.1 f;obtain⟨uj,b,g⟩:=X4.1 g;by_cases E:oN c.op=true
 ·obtain⟨t,rfl⟩:=yL E p;simp only[bW]at f;injection f with f
  subst f;rw[ca C]at b;cases uj with
  |val u=>
   simp only[bW]at g;injection g with g
   subst g;refine⟨s.put m.dst u,by rw[bD,b];rfl,?_⟩;rw[bD,ca r,p];simp only[YH,bW];rw[fw s t u A]
  |new u o l=>
   simp only[bW,fj]at g;cases I:m.dst with
   |none=>rw[I]at g;cases g
   |some e=>
    rw[I]at g;simp only at g;split at g
    ·rename_i hH;injection g with g
     subst g;refine⟨AS.put ⟨s.tmps,aw s.H e (o::l)⟩ (some e) u,by rw[bD,b];simp only[YH,bW,I,hH],?_⟩;rw[bD,<- I,ca r,wN E s.tmps _ s.H];rw[show(⟨s.tmps,s.H⟩:AS)=s from rfl,p];simp only[YH,bW];rw[fw _ u t (fun k J v=>A k v (by rw[J]))]
     congr 2
     cases c.dst<;>rfl
    cases g
  |wr q=>
   simp only[bW]at g;injection g with g
   subst g;refine⟨AS.put ⟨s.tmps.map (aM q.k),q.H⟩ m.dst q.t,by rw[bD,b];rfl,?_⟩;rw[bD,ca r,(qC E q.k q.H).2 ⟨t,p,rfl⟩];simp only[YH,bW];rw[G3,fw _ _ _ (fun k J v=>A k v (by rw[J]))]
 by_cases F:oN m.op=true
 ·obtain⟨u,rfl⟩:=yL F b;simp only[bW]at g;injection g with g
  subst g;cases ui with
  |val t=>
   simp only[bW]at f;injection f with f
   subst f;rw[ca C]at b;refine⟨s.put m.dst u,by rw[bD,b];rfl,?_⟩;rw[bD,ca r,p];simp only[YH,bW];rw[fw s t u A]
  |new t o l=>
   simp only[bW]at f;cases B:c.dst with
   |none=>rw[B]at f;cases f
   |some e=>
    rw[B]at f;simp only at f;split at f
    ·rename_i hH;injection f with f
     subst f;rw[<- B,ca C,wN F s.tmps _ s.H,show(⟨s.tmps,s.H⟩:AS)=s from rfl]at b;refine⟨s.put m.dst u,by rw[bD,b];rfl,?_⟩;rw[bD,ca r,p];simp only[YH,bW,fj,B,hH];rw[fw _ t u (fun k J=>A k (by rw[B];exact J))]
     congr 2
     cases m.dst<;>rfl
    cases f
  |wr q=>
   simp only[bW]at f;injection f with f
   subst f;rw[ca C]at b;obtain⟨u0,hu0,rfl⟩:=(qC F q.k q.H).1 b;refine⟨s.put m.dst u0,by rw[bD,hu0];rfl,?_⟩;rw[bD,ca r,p];simp only[YH,bW];rw[G3,fw _ _ _ A]
 obtain⟨S,T⟩:(∀e G,fD P e G c.op=none)/\ ∀e G,fD P e G m.op=none:=by
  rcases ag with h|h|h
  ·exact absurd h E
  ·exact absurd h F
  exact h
 have K: ∀{i:Nat} {o:Oper} {s:AS} {u:O9},(∀e G,fD P e G o.op=none)->cu P items ow ops i o s=some u-> ∀q,u≠ .wr q:=fun{i o s u} hD w q hq=>by
  subst hq;unfold cu kn at w;split at w
  ·split at w
   ·obtain⟨_,_,hh⟩:=XI.1 w;cases hh
   split at w
   ·obtain⟨_,_,hh⟩:=XI.1 w;cases hh
   rw[hD]at w;simp only at w;split at w
   ·cases w
   unfold Fa at w;split at w<;>cases w
  ·cases w
  cases w
 obtain⟨t,X,rfl,ab,U⟩:=pA (K S p) f;rw[ca C,qB hl ab T]at b;obtain⟨u,Y,rfl,ac,V⟩:=pA (K T b) g;simp only[fj]at V ac
 -- what n does to s alone
 have hj: ∃y,aQ P items ow ops n m s=some (AS.put ⟨s.tmps,y⟩ m.dst u)/\A9 s.H y/\((y=s.H/\Y=X)\/ ∃e o l,m.dst=some e/\y=aw s.H e (o::l)/\Y=aw X e (o::l)):=by
  rcases V with⟨M,R⟩|⟨e,o,l,M,R,e3,e4⟩
  ·exact⟨s.H,by rw[bD,b,R];rfl,fun _ _=>rfl,.inl ⟨rfl,M⟩⟩
  have W:s.H e=[]:=by
   rcases U with⟨x,_⟩|⟨L,o',l',x,Q,Z,_⟩
   ·rw[<- x];exact R
   rw[Z,ay (by rintro rfl;exact A _ x M)]at R;exact R
  refine⟨aw s.H e (o::l),by rw[bD,b,e4];simp only[YH,bW,M,W],fun a ha=>ay (by rintro rfl;exact ha W),.inr ⟨e,o,l,M,rfl,e3⟩⟩
 obtain⟨y,ae,ad,N⟩:=hj;refine⟨_,ae,?_⟩;rw[bD,ca r,qB hl ad S,p];simp only[YH];rcases U with⟨x,Q⟩|⟨L,o',l',x,Q,Z,c4⟩
 ·subst Q;simp only[bW];rw[fw _ u t (fun k J v=>A k v (by rw[J]))]
  congr 1
  have:y=Y:=by
   rcases N with⟨D,O⟩|⟨e,o,l,q0,D,O⟩
   ·rw[D,O,x]
   rw[D,O,x]
  rw[this,Nj s.tmps X,x];cases c.dst<;>rfl
 subst c4;have aa:y L=[]:=by
  rcases N with⟨D,_⟩|⟨e,o,l,q0,D,_⟩
  ·rw[D];exact Q
  rw[D,ay (by rintro rfl;exact A _ x q0)];exact Q
 simp only[bW,x,fj,aa];have M:(⟨(AS.put ⟨s.tmps,y⟩ m.dst u).tmps,aw y L (o'::l')⟩:AS)=AS.put ⟨s.tmps,aw y L (o'::l')⟩ m.dst u:=by cases m.dst<;>rfl
 rw[M,fw _ u t (fun k J v=>A k (by rw[x];exact v) (by rw[J]))]
 congr 1
 have:aw y L (o'::l')=Y:=by
  rcases N with⟨D,O⟩|⟨e,o,l,q0,D,O⟩
  ·rw[D,O,Z]
  rw[D,O,Z];funext z;have af:L≠e:=by rintro rfl;exact A _ x q0
  by_cases f:z=L
  ·subst f;rw[aI,ay af,aI]
  rw[ay f];by_cases g:z=e
  ·subst g;rw[aI,aI]
  rw[ay g,ay g,ay f]
 rw[this,Nj s.tmps X];rfl
end
end
section
section
variable {P:Program} {items:List (dc P)} {ow:List Nat} {ops:Array Oper} {s s1 s':AS} {H H':OH}
theorem E6 (h:noRefTV e=true):fF H e:=by
 have c: ∀x,eR x=true->eP H x:=fun x b=>by cases x<;>first|trivial|cases b
 cases e with
 |one x=>exact c x h
 |agg g=>simp only[noRefTV,XO]at h;exact fun x b=>c x (h x b)
 |fn f g=>simp only[noRefTV,XO]at h;exact fun x b=>c x (h x b)
 |tup l=>simp only[noRefTV,XO]at h;exact fun e j x b=>c x (h e j x b)
theorem C4 {d:Nat} (h:selfTV d e) (g:H d≠[]):fF H e:=by
 have c: ∀x,bz d x->eP H x:=fun x b=>by
  cases x with
  |sl a _ _ _=>have b:a=d:=b;subst b;exact g
  |ptr a _ _ _=>have b:a=d:=b;subst b;exact g
  |fn _ a _=>have j:a=d:=b.1;subst j;exact⟨g,b.2⟩
  |p x=>trivial
  |junk=>trivial
 cases e with
 |one x=>exact c x h
 |agg l=>exact fun x b=>c x (h x b)
 |fn f l=>exact fun x b=>c x (h x b)
 |tup n=>exact fun e m x b=>c x (h e m x b)
theorem wg (d:Nat) (t:TV):selfTV d (renTV d t):=by
 cases t with
 |one x=>exact dj d x
 |agg e=>intro x b;simp only[XR]at b;obtain⟨y,_,rfl⟩:=b;exact dj d y
 |fn f e=>intro x b;simp only[XR]at b;obtain⟨y,_,rfl⟩:=b;exact dj d y
 |tup h=>
  intro t c x b;simp only[XR]at c;obtain⟨g,_,rfl⟩:=c;simp only[XR]at b;obtain⟨y,_,rfl⟩:=b;exact dj d y
theorem yq {d:Nat} (h:noRefTV e=true):noRefTV (renTV d e)=true:=by
 have c: ∀x,eR x=true->eR (b6 d x)=true:=fun x b=>by cases x<;>first|rfl|cases b
 cases e with
 |one x=>exact c x h
 |agg g=>simp only[noRefTV,XO]at h;simp only[renTV,noRefTV,XO,XR];rintro _ ⟨x,b,rfl⟩;exact c x (h x b)
 |fn f g=>simp only[noRefTV,XO]at h;simp only[renTV,noRefTV,XO,XR];rintro _ ⟨x,b,rfl⟩;exact c x (h x b)
 |tup l=>
  simp only[noRefTV,XO]at h;simp only[renTV,noRefTV,XO,XR];rintro _ ⟨e,j,rfl⟩ _ b;simp only[XR]at b;obtain⟨x,b,rfl⟩:=b;exact c x (h e j x b)
theorem dp {a:Nat} (h: ∀e∈f.elems,∀x∈e,isPure x=true):selfO a f:=fun e b x c=>ck (h e b x c)
theorem yo {c:List (List AV)} (h:gf H e=some c): ∀b∈c,∀x∈b,isPure x=true:=by
 unfold gf at h;split at h
 ·injection h with h
  subst h;intro b f x g;simp only[XR]at f;obtain⟨l,_,rfl⟩:=f;simp only[XR]at g;obtain⟨m,_,rfl⟩:=g;rfl
 ·injection h with h;subst h;intro b f;simp at f
 ·split at h
  ·split at h
   ·rename_i j;injection h with h
    subst h;simp only[XO]at j;exact fun b f x g=>j b (YT (YS f)) x g
   cases h
  cases h
 cases h
theorem Cv {ev:Operand->Option TV} {n:Nat}: ∀(parts:List (Nat×Operand)) (i:Nat) (l:List (List AV)),oQ ev n i parts=some l-> ∀e∈l,∀x∈e,isPure x=true
 |[],i,l,h=>by simp only[oQ]at h;injection h with h;subst h;intro e b;simp at b
 |(k,x)::c,i,l,h=>by
  simp only[oQ]at h;split at h
  ·rename_i p o m f;split at h
   ·rename_i j;injection h with h
    subst h;intro e b y g;rcases Yo.1 b with rfl|b
    ·have:=j.2.2;simp only[XO]at this;exact this y g
    exact Cv c (i+1) o f e b y g
   cases h
  cases h
theorem Ev {i d:Nat} {ev:Operand->Option TV} {op:Op} {t:TV} {F:List OObj} (h:b8 P items ow i d ev H op=some (t,F)):selfTV d t/\(F=[]->noRefTV t=true)/\ ∀o∈F,selfO d o:=by
 cases op<;>simp only[b8]at h<;>try cases h
 case box e x=>
  split at h
  ·split at h
   ·rename_i u;injection h with h
    injection h with j m
    subst j m;refine⟨rfl,fun h=>by simp at h,fun o b=>?_⟩;simp at b;subst b;have:=u.1;simp only[XO]at this;exact dp (fun e p x g=>by simp at p;subst p;exact this x g)
   cases h
  cases h
 case alloc e=>
  split at h
  ·split at h
   ·injection h with h
    injection h with j m
    subst j m;refine⟨rfl,fun h=>by simp at h,fun o b=>?_⟩;simp at b;subst b;exact dp (fun e p x g=>by simp at p;subst p;simp at g;obtain⟨y,_,rfl⟩:=g;rfl)
   cases h
  cases h
 case makeSlice ty l c=>
  split at h
  ·split at h
   ·split at h
    ·injection h with h
     injection h with j m
     subst j m;refine⟨rfl,fun h=>by simp at h,fun o b=>?_⟩;simp at b;subst b;exact dp (fun e p x g=>by simp[Zz]at p;rw[p.2]at g;simp at g;obtain⟨y,_,rfl⟩:=g;rfl)
    cases h
   cases h
  cases h
 case buildSlice ty n parts=>
  split at h
  ·split at h
   ·split at h
    ·rename_i l D;split at h
     ·split at h
      ·injection h with h
       injection h with j m
       subst j m;refine⟨rfl,fun h=>by simp at h,fun o b=>?_⟩;simp at b;subst b;exact dp (Cv _ _ _ D)
      injection h with h
      injection h with j m
      subst j m;exact⟨trivial,fun _=>rfl,fun o b=>by simp at b⟩
     cases h
    cases h
   cases h
  cases h
 case call c=>
  split at h
  ·split at h
   ·rename_i I K w z;split at h
    ·rename_i u;injection h with h
     injection h with j m
     subst j m;refine⟨wg _ _,fun r=>?_,fun o b=>?_⟩
     ·have q:=u.2.2.2;simp only[aby]at r;rw[r]at q;exact yq (by simpa using q)
     simp only[XR]at b;obtain⟨J,_,rfl⟩:=b;intro e p x g;simp only[renO,XR]at p;obtain⟨B,_,rfl⟩:=p;simp only[XR]at g;obtain⟨y,_,rfl⟩:=g;exact dj d y
    cases h
   cases h
  ·split at h
   ·rename_i f v I K C w z;split at h
    ·rename_i u;injection h with h
     injection h with j m
     subst j m;refine⟨wg _ _,fun r=>?_,fun o b=>?_⟩
     ·have q:=u.2.2.2;simp only[aby]at r;rw[r]at q;exact yq (by simpa using q)
     simp only[XR]at b;obtain⟨J,_,rfl⟩:=b;intro e p x g;simp only[renO,XR]at p;obtain⟨B,_,rfl⟩:=p;simp only[XR]at g;obtain⟨y,_,rfl⟩:=g;exact dj d y
    cases h
   cases h
  ·split at h
   ·split at h
    ·rename_i A e L g G;split at h
     ·split at h
      ·injection h with h
       injection h with j m
       subst j m;refine⟨rfl,fun h=>by simp at h,fun o b=>?_⟩;simp at b;subst b;obtain⟨M,_,E⟩:=X4.1 g;exact dp (yo E)
      cases h
     cases h
    cases h
   cases h
  cases h
theorem ki {k:Nat->Nat->Bool} {x:AV} (h: ∀a r,H a≠[]->k a r=false->H' a≠[]) (b:eP H x):eP H' (aL k x):=by
 cases x with
 |sl a r e len=>
  simp only[aL];cases c:k a r with
  |true=>trivial
  |false=>exact h a r b c
 |ptr a r i j=>
  simp only[aL];cases c:k a r with
  |true=>trivial
  |false=>exact h a r b c
 |p x=>trivial
 |junk=>trivial
 |fn f a g=>
  simp only[aL];split
  ·trivial
  rename_i c;refine⟨?_,b.2⟩;cases g with
  |nil=>exact absurd rfl b.2
  |cons q l=>exact h a q.1 b.1 (by cases m:k a q.1<;>simp_all)
theorem sE {k:Nat->Nat->Bool} (h: ∀a r,H a≠[]->k a r=false->H' a≠[]) (g:fF H e):fF H' (aM k e):=by
 cases e with
 |one x=>exact ki h g
 |agg m=>intro y b;simp only[XR]at b;obtain⟨z,c,rfl⟩:=b;exact ki h (g z c)
 |fn f m=>intro y b;simp only[XR]at b;obtain⟨z,c,rfl⟩:=b;exact ki h (g z c)
 |tup o=>
  intro e l y b;simp only[XR]at l;obtain⟨n,j,rfl⟩:=l;simp only[XR]at b;obtain⟨z,c,rfl⟩:=b;exact ki h (g n j z c)
theorem qt {a:Nat} {l:List OObj} {o:OObj} (e: ∀o∈l,selfO a o) (b:selfO a f): ∀o∈l.set n f,selfO a o:=fun x c=>by
 rcases YO c with c|rfl
 ·exact e x c
 exact b
theorem qf {a i:Nat} {e h:List AV} (c:selfO a f) (l:f.elems[i]?=some e) (m: ∀x∈h,bz a x):selfO a {f with elems:=f.elems.set i (putCells e n h)}:=fun y g x b=>by
 rcases YO g with g|rfl
 ·exact c y g x b
 unfold putCells at b;simp only[YK]at b;rcases b with(b|b)|b
 ·exact c e (XH l) x (YT b)
 ·exact m x b
 exact c e (XH l) x (YS b)
theorem IP (K:kM s) {op:Op} {q:DJ} (h:fD P s.ev s.H op=some q):(∀a r,s.H a≠[]->q.k a r=false->q.H a≠[])/\(∀a,∀o∈q.H a,selfO a o)/\fF q.H q.t:=by
 have g: ∀H,fF H TV.undef:=fun H t ht=>by simp at ht
 have w: ∀{a r:Nat} {o:OObj} {F:List OObj},(s.H a)[r]?=some o->F.length>=(s.H a).length->(∀o∈F,selfO a o)->(∀(b r':Nat),s.H b≠[]->aw s.H a F b≠[])/\ ∀b,∀o∈aw s.H a F b,selfO b o:=fun{a r o F} C E hF=>by
  have Q:0<(s.H a).length:=by have:=(XN.1 C).1;omega
  refine⟨fun b _ D=>?_,fun b T u=>?_⟩
  ·by_cases m:b=a
   ·subst m;rw[aI];intro U;rw[U]at E;simp at E;simp[E]at Q
   rw[ay m];exact D
  by_cases m:b=a
  ·subst m;rw[aI]at u;exact hF T u
  rw[ay m]at u;exact K.2 b T u
 cases op<;>simp only[fD]at h<;>try cases h
 case store t ad x=>
  split at h
  ·rename_i a r i j n ac Z;split at h
   ·rename_i o C;have B:=K.2 a o (XH C);split at h
    ·rename_i e A;split at h
     ·rename_i L r' S len I;split at h
      ·rename_i M;subst M;split at h
       ·injection h with h
        subst h;obtain⟨G,J⟩:=w C (F:=(s.H L).set r {o with elems:=o.elems.set i (putCells e j [.sl L r' S len])}) (by simp) (qt (o:=o) (K.2 L) (qf B A (fun y l=>by simp at l;subst l;rfl)));exact⟨fun b r D _=>G b r D,J,g _⟩
       cases h
      rename_i M;split at h
      ·rename_i ob hH;split at h
       ·rename_i N;injection h with h
        subst h;have O:=N.2.2.2.2.2.2;simp only[XO]at O;obtain⟨G,J⟩:=w C (F:=(s.H a).set r {o with elems:=o.elems.set i (putCells e j [.sl a (s.H a).length 0 len])}++[ob]) (by simp) (fun y l=>by
         rcases YK.1 l with l|l
         ·exact qt (o:=o) (K.2 a) (qf B A (fun y l=>by simp at l;subst l;rfl)) y l
         simp at l;subst l;exact dp O)
        refine⟨fun b r D hk=>?_,fun b T u=>?_,g _⟩
        ·have m:b≠L:=by simpa using hk
         show aw _ L [] b≠[];rw[ay m];exact G b r D
        by_cases m:b=L
        ·subst m;simp only[aI]at u;simp at u
        simp only[ay m]at u;exact J b T u
       cases h
      cases h
     ·rename_i f Y I;split at h
      ·rename_i qs ag;split at h
       ·rename_i N;injection h with h
        subst h;obtain⟨G,J⟩:=w C (F:=(s.H a).set r {o with elems:=o.elems.set i (putCells e j [.fn f a qs])}) (by simp) (qt (o:=o) (K.2 a) (qf B A (fun y l=>by simp at l;subst l;exact⟨rfl,ZU N.2.2⟩)));exact⟨fun b r D _=>G b r D,J,g _⟩
       cases h
      cases h
     ·rename_i v hv hv2 I;split at h
      ·rename_i Y af;split at h
       ·rename_i N;injection h with h
        subst h;have O:=N.2.2;simp only[XO]at O;obtain⟨G,J⟩:=w C (F:=(s.H a).set r {o with elems:=o.elems.set i (putCells e j Y)}) (by simp) (qt (o:=o) (K.2 a) (qf B A (fun y l=>yu (O y l))));exact⟨fun b r D _=>G b r D,J,g _⟩
       cases h
      cases h
     cases h
    cases h
   cases h
  cases h
 case call c=>
  split at h
  ·split at h
   ·rename_i a r S len R e hs I ah;split at h
    ·rename_i o z sz ab C hz aa ae;split at h
     ·injection h with h
      subst h;obtain⟨tx,_,Z⟩:=X4.1 I;have B:=K.2 a o (XH C);obtain⟨G,J⟩:=w C (F:=((s.H a).map (iQ fun x y=>x==a&&y==r)).set r {o with elems:=o.elems++R}) (by simp) (fun y l=>by
       rcases YO l with l|rfl
       ·simp only[XR]at l;obtain⟨o2,W,rfl⟩:=l;intro e A x I;simp only[iQ,XR]at A;obtain⟨e',V,rfl⟩:=A;simp only[XR]at I;obtain⟨x',X,rfl⟩:=I;have:=K.2 a o2 W e' V x' X;cases x' with
        |sl b _ _ _=>simp only[aL];split;trivial;exact this
        |ptr b _ _ _=>simp only[aL];split;trivial;exact this
        |fn _ b _=>simp only[aL];split;trivial;exact this
        |p x=>trivial
        |junk=>trivial
       intro e A x I;rcases YK.1 A with A|A
       ·exact B e A x I
       exact ck (yo Z e A x I))
      refine⟨fun b r D _=>G b r D,J,?_⟩;exact G a r (by intro U;rw[U]at C;simp at C)
     cases h
    cases h
   cases h
  cases h
theorem zl {i:Nat} (f:kM s) (h:aQ P items ow ops i c s=some s1):kM s1:=by
 rw[bD]at h;obtain⟨out,e,h⟩:=X4.1 h;unfold cu at e;have j:fF s.H TV.undef:=fun t m=>by simp at m
 split at e
 ·unfold kn at e;split at e
  ·obtain⟨t,m,rfl⟩:=XI.1 e;simp only[bW]at h;injection h with h;subst h
   exact lf f (IR f m)
  split at e
  ·obtain⟨t,m,rfl⟩:=XI.1 e;simp only[bW]at h;injection h with h;subst h
   exact lf f (IS f m)
  split at e
  ·rename_i q G;injection e with e
   subst e;simp only[bW]at h;injection h with h;subst h
   obtain⟨z,A,B⟩:=IP f G;refine lf ⟨fun t x p=>?_,A⟩ B;simp only[XK]at p;obtain⟨y,I,rfl⟩:=XI.1 p;exact sE z (f.1 t y I)
  split at e
  ·cases e
  rename_i d D;cases r:b8 P items ow i d s.ev s.H c.op with
  |none=>rw[r]at e;cases e
  |some J=>
   obtain⟨t,F⟩:=J;rw[r]at e;obtain⟨f1,f2,f3⟩:=Ev r;cases F with
   |nil=>
    simp only[Fa]at e;injection e with e
    subst e;simp only[bW]at h;injection h with h;subst h
    exact lf f (E6 (f2 rfl))
   |cons v l=>
    simp only[Fa]at e;injection e with e
    subst e;simp only[bW,D]at h;split at h
    ·rename_i C;injection h with h
     subst h;refine lf ⟨fun k x p=>?_,fun b w g=>?_⟩ (C4 f1 (by simp[aI]))
     ·have:=f.1 k x p;have E: ∀a,s.H a≠[]->aw s.H d (v::l) a≠[]:=fun a n=>by rw[ay (by rintro rfl;exact n C)];exact n
      have:=sE (H':=aw s.H d (v::l)) (k:=fun _ _=>false) (fun a _ n _=>E a n) this;rwa[lW]at this
     by_cases u:b=d
     ·subst u;simp only[aI]at g;exact f3 w g
     simp only[ay u]at g;exact f.2 b w g
    cases h
 ·injection e with e
  subst e;simp only[bW]at h;injection h with h;subst h
  exact lf f j
 cases e
end
end
end Go.Proofs.YtalmoejhjceflaaGreat
