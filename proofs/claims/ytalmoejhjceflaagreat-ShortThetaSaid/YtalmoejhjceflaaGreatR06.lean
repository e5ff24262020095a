/-
  Part 7 of a proof (walks and plain facts).
-/
import Derived.Test.YtalmoejhjceflaaGreatR05
set_option linter.all false
set_option maxRecDepth 100000
set_option maxHeartbeats 64000000
namespace Go.Proofs.YtalmoejhjceflaaGreat
open Go.RowKit
variable {b:Operand->Option TV} {c:Oper} {e:TV} {f:OObj} {n:Nat}
section
section
variable {P:Program} {s s':AS} {H H':OH}
def CC (H H':OH):Prop:= ∀a,H a≠[]->H' a=H a
def tJ (H H':OH):AV->Prop
 | .sl a _ _ _=>H' a=H a
 | .ptr a _ _ _=>H' a=H a
 | .fn _ a _=>H' a=H a
 |_=>True
def lK (H H':OH):TV->Prop
 | .one x=>tJ H H' x
 | .agg b=> ∀x∈b,tJ H H' x
 | .fn _ b=> ∀x∈b,tJ H H' x
 | .tup c=> ∀t∈c,∀x∈t.2,tJ H H' x
theorem lj {x:AV} (h:fE H x) (g:CC H H'):tJ H H' x:=by
 cases x with
 |sl a _ _ _=>exact g a h
 |ptr a _ _ _=>exact g a h
 |fn _ a _=>exact g a h.1
 |p x=>trivial
 |junk=>trivial
theorem Er (h:gH H e) (g:CC H H'):lK H H' e:=by
 cases e with
 |one x=>exact lj h g
 |agg c=>exact fun x b=>lj (h x b) g
 |fn f c=>exact fun x b=>lj (h x b) g
 |tup l=>exact fun e j x b=>lj (h e j x b) g
theorem lk (x:AV):tJ H H x:=by cases x<;>first|rfl|trivial
theorem Es (t:TV):lK H H t:=by
 cases t with
 |one x=>exact lk x
 |agg b=>exact fun x _=>lk x
 |fn f b=>exact fun x _=>lk x
 |tup c=>exact fun t _ x _=>lk x
theorem wY {ev f:Operand->Option TV} {op:Op} (h: ∀x∈op.operands,ev x=f x):i7 P ev op=i7 P f op:=by
 cases op<;>simp only[Op.operands]at h<;>simp only[i7]
 case call c=>
  have e:c.args.toList.map ev=c.args.toList.map f:=aaA fun x g=>h x (by simp only[Call.operands,Array.mem_append];exact .inr (Array.mem_toList_iff.1 g))
  unfold YX;rw[e]
 case move x=>exact h x (by simp)
 case assign x=>exact h x (by simp)
 case pick c a b=>rw[h c (by simp),h a (by simp),h b (by simp)]
 case binOp op t x y t'=>rw[h x (by simp),h y (by simp)]
 case unOp op t x=>rw[h x (by simp)]
 case convert a b x=>rw[h x (by simp)]
 case extract x k=>rw[h x (by simp)]
theorem Dq (k:Nat->Nat->Bool): ∀(c e:List AV),Od (c.map (aN k)) (e.map (aN k))=Od c e
 |[],[]=>rfl
 |[],_::_=>rfl
 |x::c,[]=>by
  simp only[aaC,aaR];cases x with
  |p x=>cases x with
   |raw v=>cases v<;>rfl
   |sl _=>rfl
   |ptr _=>rfl
  |sl a r b len=>simp only[aN];split<;>rfl
  |ptr a r i j=>simp only[aN];split<;>rfl
  |fn f a g=>simp only[aN];split<;>rfl
  |junk=>rfl
 |x::c,y::e=>by
  have h:=Dq k c e;simp only[aaC];cases x with
  |p x=>cases x with
   |raw v=>
    cases v
    case int k1 a=>
     cases y with
     |p y=>cases y with
      |raw u=>cases u<;>first|rfl|simp only[aN,Od,h]
      |sl _=>rfl
      |ptr _=>rfl
     |sl a r b len=>simp only[aN];split<;>rfl
     |ptr a r i j=>simp only[aN];split<;>rfl
     |fn f a g=>simp only[aN];split<;>rfl
     |junk=>rfl
    all_goals rfl
   |sl _=>rfl
   |ptr _=>rfl
  |sl a r b len=>simp only[aN];split<;>rfl
  |ptr a r i j=>simp only[aN];split<;>rfl
  |fn f a g=>simp only[aN];split<;>rfl
  |junk=>rfl
theorem Lt (k:Nat->Nat->Bool) (t:TV):xA (aP k t)=xA t:=by
 cases t with
 |one x=>
  cases x with
  |p x=>rfl
  |sl a r c len=>simp only[aP,aN];split<;>rfl
  |ptr a r i j=>simp only[aP,aN];split<;>rfl
  |fn f a e=>simp only[aP,aN];split<;>rfl
  |junk=>rfl
 |agg b=>rfl
 |fn f b=>rfl
 |tup g=>rfl
theorem xB (k:Nat->Nat->Bool) (t:Option TV):(t.map (aP k)).bind xA=t.bind xA:=by
 cases t with
 |none=>rfl
 |some t=>exact Lt k t
theorem DZ (k:Nat->Nat->Bool) (f:Int->Int->Int) (l:List (Option TV)):RB f (l.map (Option.map (aP k)))=(RB f l).map (aP k):=by
 have key: ∀(t:TV) v,aP k t= .one (.p (.raw v))↔t= .one (.p (.raw v)):=fun t v=>by
  cases t with
  |one x=>
   cases x with
   |p x=>exact Iff.rfl
   |sl a r z len=>simp only[aP,aN];split<;>simp
   |ptr a r i j=>simp only[aP,aN];split<;>simp
   |fn f a A=>simp only[aP,aN];split<;>simp
   |junk=>simp[aP,aN]
  |agg n=>simp[aP]
  |fn f n=>simp[aP]
  |tup B=>simp[aP]
 have g: ∀(o:Option TV) v,o.map (aP k)=some (.one (.p (.raw v)))->o=some (.one (.p (.raw v))):=fun o v h=>by
  cases o with
  |none=>cases h
  |some t=>injection h with h;rw[(key t v).1 h]
 cases h:RB f l with
 |some t=>
  obtain⟨c,m,a,b,rfl,rfl⟩:=mc h;rfl
 |none=>
  cases w:RB f (l.map (Option.map (aP k)))with
  |none=>rfl
  |some t=>
   obtain⟨c,m,a,b,e,_⟩:=mc w;obtain⟨x,y,rfl,q,u⟩:=Bz e;rw[g _ _ q,g _ _ u]at h;cases h
theorem KS (k:Nat->Nat->Bool) {ev:Operand->Option TV} {op:Op}:i7 P (fun x=>(ev x).map (aP k)) op=(i7 P ev op).map (aP k):=by
 have key: ∀(t:TV) v,aP k t= .one (.p (.raw v))↔t= .one (.p (.raw v)):=fun t v=>by
  cases t with
  |one x=>
   cases x with
   |p x=>exact Iff.rfl
   |sl a r Q len=>simp only[aP,aN];split<;>simp
   |ptr a r i j=>simp only[aP,aN];split<;>simp
   |fn f a U=>simp only[aP,aN];split<;>simp
   |junk=>simp[aP,aN]
  |agg z=>simp[aP]
  |fn f z=>simp[aP]
  |tup G=>simp[aP]
 cases op<;>simp only[i7]<;>try rfl
 case call c=>
  unfold YX;have e:c.args.toList.map (fun x=>(ev x).map (aP k))=(c.args.toList.map ev).map (Option.map (aP k)):=by rw[abn];rfl
  rw[e];split
  ·exact DZ k _ _
  ·exact DZ k _ _
  rfl
 case pick c a b=>
  cases R:ev c with
  |none=>rfl
  |some t=>
   simp only[aaT];by_cases m:t= .one (.p (.raw (.bool true)))
   ·subst m;rfl
   by_cases C:t= .one (.p (.raw (.bool false)))
   ·subst C;rfl
   have D: ∀b,aP k t≠ .one (.p (.raw (.bool b))):=fun b h=>by
    have:=(key t _).1 h;cases b
    ·exact C this
    exact m this
   split
   ·rename_i h;injection h with h;exact absurd h (D _)
   ·rename_i h;injection h with h;exact absurd h (D _)
   split
   ·rename_i h;injection h with h;exact absurd h m
   ·rename_i h;injection h with h;exact absurd h C
   rfl
 case binOp op t x y t'=>
  by_cases w:Gw y=true
  ·rw[if_pos w,if_pos w];unfold Ae;rw[xB,xB];split<;>rfl
  rw[if_neg w,if_neg w];cases F:ev x with
  |none=>rfl
  |some B=>
   cases T:ev y with
   |none=>
    simp only[aaT,abY];split
    ·rename_i h;cases h
    ·rename_i h;cases h
    rfl
   |some I=>
    simp only[aaT];by_cases m: ∃a b,B= .one (.p (.raw a))/\I= .one (.p (.raw b))
    ·obtain⟨a,b,rfl,rfl⟩:=m;simp only[aP,aN];cases zJ (wF P t) op a b<;>rfl
    by_cases C: ∃J K,B= .agg J/\I= .agg K
    ·obtain⟨J,K,rfl,rfl⟩:=C;simp only[aP,Dr,aa0,Dq];split
     ·split<;>rfl
     ·split<;>rfl
     rfl
    have A: ∀(t:TV) z,aP k t= .agg z-> ∃E,t= .agg E:=fun t z O=>by
     cases t<;>simp[aP]at O;exact⟨_,rfl⟩
    split
    ·rename_i a b g o;injection g with g
     injection o with o
     exact absurd ⟨a,b,(key _ _).1 g,(key _ _).1 o⟩ m
    ·rename_i a b g o;injection g with g
     injection o with o
     obtain⟨L,D⟩:=A _ _ g;obtain⟨M,N⟩:=A _ _ o;exact absurd ⟨L,M,D,N⟩ C
    split
    ·rename_i a b g o;injection g with g
     injection o with o
     exact absurd ⟨a,b,g,o⟩ m
    ·rename_i a b g o;injection g with g
     injection o with o
     exact absurd ⟨a,b,g,o⟩ C
    rfl
 case unOp op t x=>
  cases F:ev x with
  |none=>rfl
  |some B=>
   simp only[aaT];by_cases m: ∃a,B= .one (.p (.raw a))
   ·obtain⟨a,rfl⟩:=m;simp only[aP,aN];cases KX op a<;>rfl
   split
   ·rename_i a g;injection g with g;exact absurd ⟨a,(key _ _).1 g⟩ m
   split
   ·rename_i a g;injection g with g;exact absurd ⟨a,g⟩ m
   rfl
 case convert a b x=>
  cases F:ev x with
  |none=>rfl
  |some B=>
   simp only[aaT];by_cases m: ∃q n,B= .one (.p (.raw (.int q n)))
   ·obtain⟨q,n,rfl⟩:=m;simp only[aP,aN];cases P.underlying a with
    |none=>rfl
    |some u=>cases yQ P b<;>rfl
   split
   ·rename_i q n _ _ g _ _;injection g with g;exact absurd ⟨_,_,(key _ _).1 g⟩ m
   split
   ·rename_i q n _ _ g _ _;injection g with g;exact absurd ⟨_,_,g⟩ m
   rfl
 case extract x i=>
  cases F:ev x with
  |none=>rfl
  |some B=>
   cases B with
   |one y=>rfl
   |agg z=>rfl
   |fn f z=>rfl
   |tup G=>
    simp only[aaT,aP,u9];cases S:G[i]? with
    |none=>rfl
    |some t=>
     obtain⟨b,z⟩:=t;cases b with
     |true=>rfl
     |false=>
      cases z with
      |nil=>rfl
      |cons y l=>cases l<;>rfl
theorem ju {ev:Operand->Option TV} {x:Option Operand} {d:Nat} (h: ∀y,x=some y->ev y=b y):d7 ev x d=d7 b x d:=by
 cases x with
 |none=>rfl
 |some y=>simp only[d7,h y rfl]
theorem xd {g:List (Nat×Nat)} {ev b:Operand->Option TV}: ∀(parts:List (Nat×Operand)) (e:List AV),(∀p∈parts,ev p.2=b p.2)->jy g ev e parts=jy g b e parts
 |[],e,_=>rfl
 |(f,x)::c,e,h=>by
  simp only[jy,h (f,x) (by simp)];split
  ·split
   ·exact xd c _ (fun p j=>h p (by simp[j]))
   rfl
  rfl
theorem zS {n:Nat} {ev b:Operand->Option TV}: ∀(parts:List (Nat×Operand)) (i:Nat),(∀p∈parts,ev p.2=b p.2)->pW ev n i parts=pW b n i parts
 |[],i,_=>rfl
 |(f,x)::c,i,h=>by
  simp only[pW,h (f,x) (by simp),zS c (i+1) (fun p e=>h p (by simp[e]))]
theorem jx {ev b:Operand->Option TV}: ∀(l:List Operand),(∀x∈l,ev x=b x)->eK ev l=eK b l
 |[],_=>rfl
 |x::l,h=>by simp only[eK,h x (by simp),jx l (fun y c=>h y (by simp[c]))]
theorem w7 {ev:Operand->Option TV} {op:Op} (h: ∀x∈op.operands,ev x=b x) (A: ∀x∈op.operands,∀t,ev x=some t->lK H H' t):bU P ev H op=bU P b H' op:=by
 cases op<;>simp only[Op.operands]at h A<;>try (simp only[bU];done)
 case load t x=>
  simp only[bU,<- h x (by simp)];cases q:ev x with
  |none=>rfl
  |some o=>
   have:=A x (by simp) o q;cases o with
   |one y=>
    cases y with
    |ptr a r i j=>simp only[show H' a=H a from this]
    |p y=>cases y<;>rfl
    |sl a r u len=>rfl
    |junk=>rfl
    |fn=>rfl
   |agg n=>rfl
   |fn f n=>rfl
   |tup B=>rfl
 case indexAddr t x ix=>
  simp only[bU,<- h x (by simp),<- h ix (by simp)];cases dw P t with
  |none=>
   cases q:ev x with
   |none=>rfl
   |some o=>
    cases o with
    |one y=>
     cases y with
     |p y=>
      cases y with
      |raw v=>
       cases v with
       |pointer a=>
        cases a with
        |none=>rfl
        |some a=>
         obtain⟨g,u,F⟩:=a;cases F<;>rfl
       |_=>rfl
      |sl G=>rfl
      |ptr n=>rfl
     |sl a r u len=>rfl
     |ptr a r i j=>rfl
     |junk=>rfl
     |fn=>rfl
    |agg n=>rfl
    |fn f n=>rfl
    |tup B=>rfl
  |some e=>
   cases q:ev x with
   |none=>rfl
   |some o=>
    have:=A x (by simp) o q;cases o with
    |one y=>
     cases y with
     |sl a r u len=>simp only[show H' a=H a from this]
     |p y=>cases y<;>rfl
     |ptr a r i j=>rfl
     |junk=>rfl
     |fn=>rfl
    |agg n=>rfl
    |fn f n=>rfl
    |tup B=>rfl
 case index t x ix=>simp only[bU,<- h x (by simp),<- h ix (by simp)]
 case fieldAddr t x f=>simp only[bU,<- h x (by simp)]
 case field t x f=>simp only[bU,<- h x (by simp)]
 case slice t x lo hi mx=>
  cases mx with
  |some m=>
   cases lo with
   |none=>simp only[bU]
   |some lo=>
   cases hi with
   |none=>simp only[bU]
   |some hi=>
   simp only[bU,<- h x (by simp)];have z:d7 ev (some lo) 0=d7 b (some lo) 0:=ju fun y l=>h y (by injection l with l;subst l;simp)
   have w:d7 ev (some hi) 0=d7 b (some hi) 0:=ju fun y l=>h y (by injection l with l;subst l;simp)
   have C:d7 ev (some m) 0=d7 b (some m) 0:=ju fun y l=>h y (by injection l with l;subst l;simp)
   simp only[z,w,C];cases dw P t with
   |none=>rfl
   |some e=>
    cases q:ev x with
    |none=>rfl
    |some o=>
     have:=A x (by simp) o q;cases o with
     |one y=>
      cases y with
      |sl a r u len=>simp only[show H' a=H a from this]
      |p y=>cases y<;>rfl
      |ptr a r i j=>rfl
      |junk=>rfl
      |fn=>rfl
     |agg n=>rfl
     |fn f n=>rfl
     |tup B=>rfl
  |none=>
   simp only[bU,<- h x (by simp)];have z: ∀d,d7 ev lo d=d7 b lo d:=fun d=>ju fun y l=>h y (by subst l;simp)
   have w: ∀d,d7 ev hi d=d7 b hi d:=fun d=>ju fun y l=>h y (by subst l;cases lo<;>simp)
   simp only[z,w];cases dw P t with
   |none=>rfl
   |some e=>
    cases q:ev x with
    |none=>rfl
    |some o=>
     have:=A x (by simp) o q;cases o with
     |one y=>
      cases y with
      |sl a r u len=>simp only[show H' a=H a from this]
      |p y=>cases y<;>rfl
      |ptr a r i j=>rfl
      |junk=>rfl
      |fn=>rfl
     |agg n=>rfl
     |fn f n=>rfl
     |tup B=>rfl
 case build t parts=>
  simp only[bU];have: ∀D n,jy D ev n parts.toList=jy D b n parts.toList:=fun D n=>xd _ _ (fun p E=>h p.2 (by simp only[List.mem_toArray,aai];exact⟨p,E,rfl⟩))
  simp only[this]
 case nilCheck x=>simp only[bU,<- h x (by simp)]
 case makeFunc fn first captured=>
  cases fn with
  |func f=>
   simp only[bU];rw[jx captured.toList (fun x q=>h x (by simp at q⊢;exact .inr q))]
  |_=>simp only[bU]
 case call c=>
  obtain⟨callee,⟨args⟩,⟨argTypes⟩⟩:=c;cases callee with
  |builtin g=>
   cases g<;>try (simp only[bU];done)
   simp only[bU];simp only[Call.operands]at h;split
   ·rename_i x t;rw[h x (by simp)]
   rfl
  |value f=>simp only[bU]
  |invoke r m=>simp only[bU]
 all_goals rfl
theorem WW (x:PV):ib H' (.one (.p x))=ib H (.one (.p x)):=by
 have key: ∀G:OH,ib G (.one (.p x))= .one (.p x)\/(x= .raw (.slice none 0 0)/\ib G (.one (.p x))= .one (.p (.sl []))):=fun G=>by
  unfold ib;split
  ·rename_i b;cases b
  ·rename_i b;injection b with b;injection b with b;exact .inr ⟨b,rfl⟩
  exact .inl rfl
 by_cases f:x= .raw (.slice none 0 0)
 ·subst f;rfl
 rcases key H with c|⟨c,_⟩
 ·rcases key H' with e|⟨e,_⟩
  ·rw[c,e]
  exact absurd e f
 exact absurd c f
theorem WV (x:PV):gZ H' (.one (.p x))=gZ H (.one (.p x)):=by
 unfold gZ;split
 ·rename_i b;injection b with b;injection b with b;subst b;rfl
 ·rename_i b;injection b with b;injection b with b;subst b;rfl
 ·rename_i b;cases b
 rfl
theorem kj (c:lK H H' e):ib H' e=ib H e/\ ∀b,dV b H' e=dV b H e:=by
 cases e with
 |one x=>
  cases x with
  |sl a r h len=>exact⟨by simp only[ib,show H' a=H a from c],fun b=>by simp only[dV,show H' a=H a from c]⟩
  |p x=>exact⟨WW x,fun b=>rfl⟩
  |ptr a r i j=>exact⟨rfl,fun b=>rfl⟩
  |junk=>exact⟨rfl,fun b=>rfl⟩
  |fn=>exact⟨rfl,fun b=>rfl⟩
 |agg g=>exact⟨rfl,fun b=>rfl⟩
 |fn f g=>exact⟨rfl,fun b=>rfl⟩
 |tup l=>exact⟨rfl,fun b=>rfl⟩
theorem Lq (c:lK H H' e):gZ H' e=gZ H e:=by
 cases e with
 |one x=>
  cases x with
  |sl a r g len=>simp only[gZ,show H' a=H a from c]
  |p x=>exact WV x
  |ptr a r i j=>rfl
  |junk=>rfl
  |fn=>rfl
 |agg b=>rfl
 |fn f b=>rfl
 |tup h=>rfl
theorem Ga {v:List (cB P)} {T:List Nat} {i d:Nat} {ev:Operand->Option TV} {op:Op} (h: ∀x∈op.operands,ev x=b x) (F: ∀x∈op.operands,∀t,ev x=some t->lK H H' t):b9 P v T i d ev H op=b9 P v T i d b H' op:=by
 cases op<;>simp only[Op.operands]at h F<;>try (simp only[b9];done)
 case box e x=>simp only[b9,<- h x (by simp)]
 case makeSlice t l c=>simp only[b9,<- h l (by simp),<- h c (by simp)]
 case buildSlice t n parts=>
  simp only[b9];have: ∀n i,pW ev n i parts.toList=pW b n i parts.toList:=fun n i=>zS _ _ (fun p X=>h p.2 (by simp only[List.mem_toArray,aai];exact⟨p,X,rfl⟩))
  simp only[this]
 case call c=>
  obtain⟨callee,⟨args⟩,⟨argTypes⟩⟩:=c;simp only[Call.operands]at h F;cases callee with
  |value f=>
   have S:eK ev args=eK b args:=jx args (fun x M=>h x (by simp[M]));cases f<;>try (simp only[b9];done)
   ·rename_i k;simp only[b9];rw[<- S,<- h (.tmp k) (by simp)];cases q:FU (ev (.tmp k))with
    |none=>cases List.find? (fun x=>x.i==i) v<;>cases eK ev args<;>rfl
    |some V=>
     obtain⟨f,o⟩:=V;cases G:eK ev args with
     |none=>cases List.find? (fun x=>x.i==i) v<;>rfl
     |some z=>
      have Q: ∀t∈o,lK H H' t:=fun t w=>by
       unfold FU at q;split at q
       ·rename_i U Z L;injection q with q
        injection q with q A
        subst q A;have R:=F (.tmp k) (by simp) _ L;simp only[aai]at w;obtain⟨y,N,rfl⟩:=w;exact R y N
       ·rename_i U a qs L;injection q with q
        injection q with q A
        subst q A;have R:=F (.tmp k) (by simp) _ L;simp only[aai]at w;obtain⟨y,N,rfl⟩:=w;exact R
       ·split at q
        ·injection q with q
         injection q with q A
         subst q A;simp at w
        cases q
       cases q
      have B: ∀t∈z++o,lK H H' t:=fun t w=>by
       rcases abe.1 w with w|w
       ·obtain⟨j,W,rfl⟩:=abA w;obtain⟨x,M,I⟩:=(bP G).2 j _ (aau W);exact F x (by simp[u5 M]) _ I
       exact Q t w
      have J:(z++o).map (ib H')=(z++o).map (ib H):=aaA fun t w=>(kj (B t w)).1
      have O: ∀g,(z++o).all (dV g H')=(z++o).all (dV g H):=fun g=>by
       rw[Bool.eq_iff_iff];simp only[aah];exact⟨fun E t w=>by rw[<- (kj (B t w)).2 g];exact E t w,fun E t w=>by rw[(kj (B t w)).2 g];exact E t w⟩
      cases List.find? (fun x=>x.i==i) v with
      |none=>rfl
      |some u=>
       have K:(u.f=f/\(z++o).map (ib H')=u.args/\(z++o).all (dV u.res.plain H')=true/\(!u.res.fam.isEmpty||noRefTV u.res.r)=true)↔(u.f=f/\(z++o).map (ib H)=u.args/\(z++o).all (dV u.res.plain H)=true/\(!u.res.fam.isEmpty||noRefTV u.res.r)=true):=by rw[J,O]
       by_cases D:u.f=f/\(z++o).map (ib H)=u.args/\(z++o).all (dV u.res.plain H)=true/\(!u.res.fam.isEmpty||noRefTV u.res.r)=true
       ·simp only[];rw[if_pos D,if_pos (K.2 D)]
       simp only[];rw[if_neg D,if_neg (fun h=>D (K.1 h))]
   rename_i f;simp only[b9];rw[<- S];cases G:eK ev args with
   |none=>cases List.find? (fun x=>x.i==i) v<;>rfl
   |some C=>
    have B: ∀t∈C,lK H H' t:=fun t w=>by
     obtain⟨k,L,rfl⟩:=abA w;obtain⟨x,M,I⟩:=(bP G).2 k _ (aau L);exact F x (by simp[u5 M]) _ I
    have J:C.map (ib H')=C.map (ib H):=aaA fun t w=>(kj (B t w)).1
    have O: ∀g,C.all (dV g H')=C.all (dV g H):=fun g=>by
     rw[Bool.eq_iff_iff];simp only[aah];exact⟨fun E t w=>by rw[<- (kj (B t w)).2 g];exact E t w,fun E t w=>by rw[(kj (B t w)).2 g];exact E t w⟩
    cases List.find? (fun x=>x.i==i) v with
    |none=>rfl
    |some u=>
     have K:(u.f=f/\C.map (ib H')=u.args/\C.all (dV u.res.plain H')=true/\(!u.res.fam.isEmpty||noRefTV u.res.r)=true)↔(u.f=f/\C.map (ib H)=u.args/\C.all (dV u.res.plain H)=true/\(!u.res.fam.isEmpty||noRefTV u.res.r)=true):=by rw[J,O]
     by_cases D:u.f=f/\C.map (ib H)=u.args/\C.all (dV u.res.plain H)=true/\(!u.res.fam.isEmpty||noRefTV u.res.r)=true
     ·simp only[];rw[if_pos D,if_pos (K.2 D)]
     simp only[];rw[if_neg D,if_neg (fun h=>D (K.1 h))]
  |builtin g=>
   cases g<;>try (simp only[b9];done)
   simp only[b9];split
   ·rename_i x y t t';rw[<- h x (by simp),<- h y (by simp)];have J:(ev y).bind (gZ H')=(ev y).bind (gZ H):=by
     cases N:ev y with
     |none=>rfl
     |some Y=>exact Lq (F y (by simp) Y N)
    rw[J]
   rfl
  |invoke r m=>simp only[b9]
end
end
section
inductive RQ where
 |val (t:TV)
 |new (t:TV) (o:OObj) (l:List OObj)
 |wr (q:Fh)
section
variable (P:Program) (items:List (cB P)) (ow:List Nat)
noncomputable def GU (r:Option (TV×List OObj)):Option RQ:=match r with
 |some (t,[])=>some (.val t)
 |some (t,o::l)=>some (.new t o l)
 |none=>none
noncomputable def lf (i:Nat) (d:Option Tmp) (op:Op) (ev:Operand->Option TV) (H:OH):Option RQ:=
 if nH op then(i7 P ev op).map .val
 else if yD op then(bU P ev H op).map .val
 else match gn P ev H op with
  |some q=>some (.wr q)
  |none=>match d with
   |none=>none
   |some d=>GU (b9 P items ow i d ev H op)
def b6 (d:Option Tmp) (s:AS):RQ->Option AS
 | .val t=>some (s.put d t)
 | .new t o l=>match d with
  |some d=>(match s.H d with|[]=>some (AS.put ⟨s.tmps,aw s.H d (o::l)⟩ (some d) t)|_=>none)
  |none=>none
 | .wr q=>some (AS.put ⟨s.tmps.map (aP q.k),q.H⟩ d q.t)
theorem zu (i:Nat) (o:Oper) (s:AS):dG P items ow i o s=(lf P items ow i o.dst o.op s.ev s.H).bind (b6 o.dst s):=by
 unfold dG lf;split
 ·cases i7 P s.ev o.op<;>rfl
 split
 ·cases bU P s.ev s.H o.op<;>rfl
 cases gn P s.ev s.H o.op with
 |some q=>rfl
 |none=>
  cases e:o.dst with
  |none=>rfl
  |some d=>
   simp only;cases c:b9 P items ow i d s.ev s.H o.op with
   |none=>rfl
   |some b=>
    obtain⟨t,F⟩:=b;cases F with
    |nil=>rfl
    |cons f l=>simp only[GU,aa8,b6];cases s.H d<;>rfl
def gate (e:Array Oper) (o:Oper) (s:AS):Option Bool:=match o.guard with
 |none=>some true
 |some (g,c)=>match(e[g]?).bind (·.dst)with
  |none=>none
  |some d=>match s.tmps[d]? with
   |some (.one (.p (.raw (.bool b))))=>some (b==c)
   |some (.tup [])=>some false
   |_=>none
noncomputable def cX (b:Array Oper) (i:Nat) (o:Oper) (s:AS):Option RQ:=match gate b o s with
 |some true=>lf P items ow i o.dst o.op s.ev s.H
 |some false=>some (.val .undef)
 |none=>none
theorem bN (h:Array Oper) (i:Nat) (o:Oper) (s:AS):aS P items ow h i o s=(cX P items ow h i o s).bind (b6 o.dst s):=by
 unfold aS cX gate;cases u:o.guard with
 |none=>simp only;exact zu P items ow i o s
 |some m=>
  obtain⟨g,c⟩:=m;simp only;cases(h[g]?).bind (·.dst)with
  |none=>rfl
  |some d=>
   simp only;cases w:s.tmps[d]? with
   |none=>rfl
   |some t=>
    cases t with
    |agg l=>rfl
    |fn f l=>rfl
    |tup q=>cases q<;>rfl
    |one x=>
     cases x with
     |sl a r n len=>rfl
     |ptr a r i j=>rfl
     |fn=>rfl
     |junk=>rfl
     |p x=>
      cases x with
      |sl y=>rfl
      |ptr l=>rfl
      |raw v=>
       cases v<;>try rfl
       rename_i b;simp only;by_cases e:b=c
       ·subst e;simp only[if_true,beq_self_eq_true];exact zu P items ow i o s
       rw[if_neg e];have:(b==c)=false:=by simpa using e
       rw[this];rfl
variable {P} {items} {ow}
variable {ops:Array Oper} {s s1 s2 s':AS} {H H':OH}
theorem mg (s:AS) (d:Option Tmp) (t:TV) (k:Nat) (h: ∀e,d=some e->e≠k):(s.put d t).tmps[k]?=s.tmps[k]?:=by
 cases d with
 |none=>rfl
 |some e=>simp only[AS.put];exact aaI (h e rfl)
theorem W4 (s:AS) (d:Option Tmp) (t:TV) {x:Operand} (h: ∀e,d=some e->x≠ .tmp e):(s.put d t).ev x=s.ev x:=by
 cases x with
 |tmp k=>exact mg s d t k (fun e b c=>h e b (by rw[c]))
 |const v=>rfl
 |global g=>rfl
 |func f=>rfl
theorem gA (s:AS) {d e:Option Tmp} (t u:TV) (h: ∀k,d=some k->e≠some k):(s.put d t).put e u=(s.put e u).put d t:=by
 cases d with
 |none=>rfl
 |some d=>
  cases e with
  |none=>rfl
  |some e=>
   have:d≠e:=fun b=>h d rfl (by rw[b])
   simp only[AS.put];rw[List.set_comm _ _ this]
def lD (ops:Array Oper) (o:Oper) (d:Option Tmp):Prop:= ∀e,d=some e->e∉o.looksAt ops
theorem lD.op {d:Option Tmp} (h:lD ops c d): ∀x∈c.op.operands,∀e,d=some e->x≠ .tmp e:=fun x g e f b=>by
 subst b;exact h e f (List.mem_append_left _ (adw.2 ⟨.tmp e,by simpa using g,rfl⟩))
theorem lD.gate {d:Option Tmp} (h:lD ops c d) {w:Bool} (j:c.guard=some (n,w)) {k:Tmp} (l:(ops[n]?).bind (·.dst)=some k): ∀e,d=some e->e≠k:=fun e f b=>by
 subst b;refine h e f (List.mem_append_right _ ?_);simp only[j,l]
 simp
theorem Om {d:Option Tmp} (h:lD ops c d) (t:TV):gate ops c (s.put d t)=gate ops c s:=by
 unfold gate;cases f:c.guard with
 |none=>rfl
 |some e=>
  obtain⟨g,b⟩:=e;simp only;cases j:(ops[g]?).bind (·.dst)with
  |none=>rfl
  |some k=>simp only;rw[mg s d t k (h.gate f j)]
theorem SW (k:Nat->Nat->Bool) (H':OH) (x:Operand):AS.ev ⟨s.tmps.map (aP k),H'⟩ x=(s.ev x).map (aP k):=by
 cases x with
 |tmp t=>simp only[AS.ev,u9]
 |const v=>
  simp only[AS.ev,aaT]
  congr 1
  unfold oX;split
  ·split
   ·simp only[aP];congr 1;rw[abn];rfl
   rfl
  split<;>rfl
 |global g=>rfl
 |func f=>rfl
theorem KZ (k:Nat->Nat->Bool) (H':OH):gate ops c ⟨s.tmps.map (aP k),H'⟩=gate ops c s:=by
 unfold gate;cases w:c.guard with
 |none=>rfl
 |some m=>
  obtain⟨g,h⟩:=m;simp only;cases y:(ops[g]?).bind (·.dst)with
  |none=>rfl
  |some e=>
   simp only[u9];cases s.tmps[e]? with
   |none=>rfl
   |some t=>
    cases t with
    |one x=>
     cases x with
     |p x=>rfl
     |sl a r n len=>simp only[aaT,aP,aN];cases k a r<;>rfl
     |ptr a r i j=>simp only[aaT,aP,aN];cases k a r<;>rfl
     |fn f a u=>simp only[aaT,aP,aN];generalize u.any (fun q=>k a q.1)=b;cases b<;>rfl
     |junk=>rfl
    |agg l=>rfl
    |fn f l=>rfl
    |tup v=>cases v<;>rfl
theorem Gd {ev:Operand->Option TV} {op:Op} (h: ∀x∈op.operands,ev x=b x):gn P ev H op=gn P b H op:=by
 cases op<;>simp only[Op.operands]at h<;>try (simp only[gn];done)
 case store t x y=>simp only[gn,<- h x (by simp),<- h y (by simp)]
 case call c=>
  obtain⟨callee,⟨args⟩,⟨argTypes⟩⟩:=c;simp only[Call.operands]at h;simp only[gn];split
  ·rename_i x y t e;rw[<- h x (by simp),<- h y (by simp)]
  rfl
theorem uy {i:Nat} {d:Option Tmp} {ev:Operand->Option TV} {op:Op} (h: ∀x∈op.operands,ev x=b x) (f: ∀x∈op.operands,∀t,ev x=some t->lK H H' t) (c:H'=H\/ ∀e G,gn P e G op=none):
  lf P items ow i d op ev H=lf P items ow i d op b H':=by
 unfold lf;rw[wY h,w7 h f];have j:gn P ev H op=gn P b H' op:=by
  rcases c with rfl|c
  ·exact Gd h
  rw[c,c]
 rw[j];have g: ∀d,b9 P items ow i d ev H op=b9 P items ow i d b H' op:=fun d=>Ga h f
 simp only[g]
theorem cj {i:Nat} {d:Option Tmp} (h:lD ops c d) (t:TV):cX P items ow ops i c (s.put d t)=cX P items ow ops i c s:=by
 unfold cX;rw[Om h,fK];split
 ·exact(uy (fun x b=>(W4 s d t (h.op x b)).symm) (fun x _ t _=>Es t) (.inl rfl)).symm
 ·rfl
 rfl
theorem rX {i:Nat} (g:lT s) (f:CC s.H H') (b: ∀e G,gn P e G c.op=none):cX P items ow ops i c ⟨s.tmps,H'⟩=cX P items ow ops i c s:=by
 unfold cX;rw[show gate ops c ⟨s.tmps,H'⟩=gate ops c s from rfl];split
 ·refine(uy (fun x _=>?_) (fun x _ t h=>Er (eG g h) f) (.inr b)).symm;cases x<;>rfl
 ·rfl
 rfl
theorem Aw {i:Nat} (b:nH c.op=true) {out:RQ} (h:cX P items ow ops i c s=some out): ∃t,out= .val t:=by
 unfold cX lf at h;split at h
 ·rw[if_pos b]at h;obtain⟨t,_,rfl⟩:=u6.1 h;exact⟨t,rfl⟩
 ·injection h with h;exact⟨_,h.symm⟩
 cases h
theorem yr {i:Nat} (e:nH c.op=true) (b:List TV) (H H':OH):cX P items ow ops i c ⟨b,H⟩=cX P items ow ops i c ⟨b,H'⟩:=by
 unfold cX lf;rw[show gate ops c ⟨b,H⟩=gate ops c ⟨b,H'⟩from rfl];simp only[e,if_true];rfl
theorem rY {i:Nat} (g:nH c.op=true) (k:Nat->Nat->Bool) (H':OH):cX P items ow ops i c ⟨s.tmps.map (aP k),H'⟩=some (.val e)↔ ∃t,cX P items ow ops i c s=some (.val t)/\e=aP k t:=by
 unfold cX lf;rw[KZ];cases gate ops c s with
 |none=>simp
 |some b=>
  cases b with
  |false=>
   simp only[Option.some.injEq,RQ.val.injEq];constructor
   ·rintro rfl;exact⟨_,rfl,rfl⟩
   rintro⟨t,rfl,rfl⟩;rfl
  |true=>
   simp only[g,if_true];have f:i7 P (AS.ev ⟨s.tmps.map (aP k),H'⟩) c.op=(i7 P s.ev c.op).map (aP k):=by
    rw[<- KS];exact wY (fun x _=>SW k H' x)
   rw[f];cases i7 P s.ev c.op with
   |none=>simp
   |some t=>
    simp only[aaT,Option.some.injEq,RQ.val.injEq];constructor
    ·rintro rfl;exact⟨t,rfl,rfl⟩
    rintro⟨t,rfl,rfl⟩;rfl
theorem PJ (b:List TV) (H:OH) (d:Option Tmp) (t:TV):AS.put ⟨b,H⟩ d t=⟨(AS.put ⟨b,H⟩ d t).tmps,H⟩:=by cases d<;>rfl
theorem Jk (s:AS) (k:Nat->Nat->Bool) (H':OH) (d:Option Tmp) (t:TV):(⟨(s.put d t).tmps.map (aP k),H'⟩:AS)=AS.put ⟨s.tmps.map (aP k),H'⟩ d (aP k t):=by
 cases d with
 |none=>rfl
 |some d=>simp only[AS.put,adr]
def Yv (P:Program) (b c:Oper):Prop:=nH b.op=true\/nH c.op=true\/((∀e G,gn P e G b.op=none)/\ ∀e G,gn P e G c.op=none)
theorem qE {d:Option Tmp} {out:RQ} (g: ∀q,out≠ .wr q) (h:b6 d s out=some s1): ∃t b,s1=AS.put ⟨s.tmps,b⟩ d t/\CC s.H b/\((b=s.H/\out= .val t)\/ ∃e o l,d=some e/\s.H e=[]/\b=aw s.H e (o::l)/\out= .new t o l):=by
 cases out with
 |val t=>simp only[b6]at h;injection h with h;exact⟨t,s.H,h.symm,fun _ _=>rfl,.inl ⟨rfl,rfl⟩⟩
 |new t o l=>
  simp only[b6]at h;cases d with
  |none=>cases h
  |some e=>
   simp only at h;split at h
   ·rename_i c;injection h with h
    refine⟨t,aw s.H e (o::l),h.symm,fun a f=>?_,.inr ⟨e,o,l,rfl,c,rfl,rfl⟩⟩;exact aD (by rintro rfl;exact f c)
   cases h
 |wr q=>exact absurd rfl (g q)
theorem L7 {i:Nat} {m:Oper} (hl:lT s) (C:lD ops m c.dst) (r:lD ops c m.dst) (A: ∀k,c.dst=some k->m.dst≠some k) (ag:Yv P c m) (f:aS P items ow ops i c s=some s1) (g:aS P items ow ops n m s1=some s'): ∃s2,aS P items ow ops n m s=some s2/\aS P items ow ops i c s2=some s':=by
 rw[bN]at f g;obtain⟨ui,p,f⟩:=aaw.1 f;obtain⟨uj,b,g⟩:=aaw.1 g;by_cases E:nH c.op=true
 ·obtain⟨t,rfl⟩:=Aw E p;simp only[b6]at f;injection f with f
  subst f;rw[cj C]at b;cases uj with
  |val u=>
   simp only[b6]at g;injection g with g
   subst g;refine⟨s.put m.dst u,by rw[bN,b];rfl,?_⟩;rw[bN,cj r,p];simp only[aa8,b6];rw[gA s t u A]
  |new u o l=>
   simp only[b6,fK]at g;cases I:m.dst with
   |none=>rw[I]at g;cases g
   |some e=>
    rw[I]at g;simp only at g;split at g
    ·rename_i hH;injection g with g
     subst g;refine⟨AS.put ⟨s.tmps,aw s.H e (o::l)⟩ (some e) u,by rw[bN,b];simp only[aa8,b6,I,hH],?_⟩;rw[bN,<- I,cj r,yr E s.tmps _ s.H];rw[show(⟨s.tmps,s.H⟩:AS)=s from rfl,p];simp only[aa8,b6];rw[gA _ u t (fun k J v=>A k v (by rw[J]))]
     congr 2
     cases c.dst<;>rfl
    cases g
  |wr q=>
   simp only[b6]at g;injection g with g
   subst g;refine⟨AS.put ⟨s.tmps.map (aP q.k),q.H⟩ m.dst q.t,by rw[bN,b];rfl,?_⟩;rw[bN,cj r,(rY E q.k q.H).2 ⟨t,p,rfl⟩];simp only[aa8,b6];rw[Jk,gA _ _ _ (fun k J v=>A k v (by rw[J]))]
 by_cases F:nH m.op=true
 ·obtain⟨u,rfl⟩:=Aw F b;simp only[b6]at g;injection g with g
  subst g;cases ui with
  |val t=>
   simp only[b6]at f;injection f with f
   subst f;rw[cj C]at b;refine⟨s.put m.dst u,by rw[bN,b];rfl,?_⟩;rw[bN,cj r,p];simp only[aa8,b6];rw[gA s t u A]
  |new t o l=>
   simp only[b6]at f;cases B:c.dst with
   |none=>rw[B]at f;cases f
   |some e=>
    rw[B]at f;simp only at f;split at f
    ·rename_i hH;injection f with f
     subst f;rw[<- B,cj C,yr F s.tmps _ s.H,show(⟨s.tmps,s.H⟩:AS)=s from rfl]at b;refine⟨s.put m.dst u,by rw[bN,b];rfl,?_⟩;rw[bN,cj r,p];simp only[aa8,b6,fK,B,hH];rw[gA _ t u (fun k J=>A k (by rw[B];exact J))]
     congr 2
     cases m.dst<;>rfl
    cases f
  |wr q=>
   simp only[b6]at f;injection f with f
   subst f;rw[cj C]at b;obtain⟨u0,hu0,rfl⟩:=(rY F q.k q.H).1 b;refine⟨s.put m.dst u0,by rw[bN,hu0];rfl,?_⟩;rw[bN,cj r,p];simp only[aa8,b6];rw[Jk,gA _ _ _ A]
 obtain⟨S,T⟩:(∀e G,gn P e G c.op=none)/\ ∀e G,gn P e G m.op=none:=by
  rcases ag with h|h|h
  ·exact absurd h E
  ·exact absurd h F
  exact h
 have K: ∀{i:Nat} {o:Oper} {s:AS} {u:RQ},(∀e G,gn P e G o.op=none)->cX P items ow ops i o s=some u-> ∀q,u≠ .wr q:=fun{i o s u} hD w q hq=>by
  subst hq;unfold cX lf at w;split at w
  ·split at w
   ·obtain⟨_,_,hh⟩:=u6.1 w;cases hh
   split at w
   ·obtain⟨_,_,hh⟩:=u6.1 w;cases hh
   rw[hD]at w;simp only at w;split at w
   ·cases w
   unfold GU at w;split at w<;>cases w
  ·cases w
  cases w
 obtain⟨t,X,rfl,ab,U⟩:=qE (K S p) f;rw[cj C,rX hl ab T]at b;obtain⟨u,Y,rfl,ac,V⟩:=qE (K T b) g;simp only[fK]at V ac
 -- what n does to s alone
 have hj: ∃y,aS P items ow ops n m s=some (AS.put ⟨s.tmps,y⟩ m.dst u)/\CC s.H y/\((y=s.H/\Y=X)\/ ∃e o l,m.dst=some e/\y=aw s.H e (o::l)/\Y=aw X e (o::l)):=by
  rcases V with⟨M,R⟩|⟨e,o,l,M,R,e3,e4⟩
  ·exact⟨s.H,by rw[bN,b,R];rfl,fun _ _=>rfl,.inl ⟨rfl,M⟩⟩
  have W:s.H e=[]:=by
   rcases U with⟨x,_⟩|⟨L,o',l',x,Q,Z,_⟩
   ·rw[<- x];exact R
   rw[Z,aD (by rintro rfl;exact A _ x M)]at R;exact R
  refine⟨aw s.H e (o::l),by rw[bN,b,e4];simp only[aa8,b6,M,W],fun a ha=>aD (by rintro rfl;exact ha W),.inr ⟨e,o,l,M,rfl,e3⟩⟩
 obtain⟨y,ae,ad,N⟩:=hj;refine⟨_,ae,?_⟩;rw[bN,cj r,rX hl ad S,p];simp only[aa8];rcases U with⟨x,Q⟩|⟨L,o',l',x,Q,Z,c4⟩
 ·subst Q;simp only[b6];rw[gA _ u t (fun k J v=>A k v (by rw[J]))]
  congr 1
  have:y=Y:=by
   rcases N with⟨D,O⟩|⟨e,o,l,q0,D,O⟩
   ·rw[D,O,x]
   rw[D,O,x]
  rw[this,PJ s.tmps X,x];cases c.dst<;>rfl
 subst c4;have aa:y L=[]:=by
  rcases N with⟨D,_⟩|⟨e,o,l,q0,D,_⟩
  ·rw[D];exact Q
  rw[D,aD (by rintro rfl;exact A _ x q0)];exact Q
 simp only[b6,x,fK,aa];have M:(⟨(AS.put ⟨s.tmps,y⟩ m.dst u).tmps,aw y L (o'::l')⟩:AS)=AS.put ⟨s.tmps,aw y L (o'::l')⟩ m.dst u:=by cases m.dst<;>rfl
 rw[M,gA _ u t (fun k J v=>A k (by rw[x];exact v) (by rw[J]))]
 congr 1
 have:aw y L (o'::l')=Y:=by
  rcases N with⟨D,O⟩|⟨e,o,l,q0,D,O⟩
  ·rw[D,O,Z]
  rw[D,O,Z];funext z;have af:L≠e:=by rintro rfl;exact A _ x q0
  by_cases f:z=L
  ·subst f;rw[aM,aD af,aM]
  rw[aD f];by_cases g:z=e
  ·subst g;rw[aM,aM]
  rw[aD g,aD g,aD f]
 rw[this,PJ s.tmps X];rfl
end
end
section
section
variable {P:Program} {items:List (cB P)} {ow:List Nat} {ops:Array Oper} {s s1 s':AS} {H H':OH}
theorem GP (h:noRefTV e=true):gH H e:=by
 have c: ∀x,fJ x=true->fE H x:=fun x b=>by cases x<;>first|trivial|cases b
 cases e with
 |one x=>exact c x h
 |agg g=>simp only[noRefTV,aah]at h;exact fun x b=>c x (h x b)
 |fn f g=>simp only[noRefTV,aah]at h;exact fun x b=>c x (h x b)
 |tup l=>simp only[noRefTV,aah]at h;exact fun e j x b=>c x (h e j x b)
theorem Ev {d:Nat} (h:selfTV d e) (g:H d≠[]):gH H e:=by
 have c: ∀x,bs d x->fE H x:=fun x b=>by
  cases x with
  |sl a _ _ _=>have b:a=d:=b;subst b;exact g
  |ptr a _ _ _=>have b:a=d:=b;subst b;exact g
  |fn _ a _=>have j:a=d:=b.1;subst j;exact⟨g,b.2⟩
  |p x=>trivial
  |junk=>trivial
 cases e with
 |one x=>exact c x h
 |agg l=>exact fun x b=>c x (h x b)
 |fn f l=>exact fun x b=>c x (h x b)
 |tup n=>exact fun e m x b=>c x (h e m x b)
theorem xX (d:Nat) (t:TV):selfTV d (renTV d t):=by
 cases t with
 |one x=>exact dv d x
 |agg e=>intro x b;simp only[aai]at b;obtain⟨y,_,rfl⟩:=b;exact dv d y
 |fn f e=>intro x b;simp only[aai]at b;obtain⟨y,_,rfl⟩:=b;exact dv d y
 |tup h=>
  intro t c x b;simp only[aai]at c;obtain⟨g,_,rfl⟩:=c;simp only[aai]at b;obtain⟨y,_,rfl⟩:=b;exact dv d y
theorem Af {d:Nat} (h:noRefTV e=true):noRefTV (renTV d e)=true:=by
 have c: ∀x,fJ x=true->fJ (bY d x)=true:=fun x b=>by cases x<;>first|rfl|cases b
 cases e with
 |one x=>exact c x h
 |agg g=>simp only[noRefTV,aah]at h;simp only[renTV,noRefTV,aah,aai];rintro _ ⟨x,b,rfl⟩;exact c x (h x b)
 |fn f g=>simp only[noRefTV,aah]at h;simp only[renTV,noRefTV,aah,aai];rintro _ ⟨x,b,rfl⟩;exact c x (h x b)
 |tup l=>
  simp only[noRefTV,aah]at h;simp only[renTV,noRefTV,aah,aai];rintro _ ⟨e,j,rfl⟩ _ b;simp only[aai]at b;obtain⟨x,b,rfl⟩:=b;exact c x (h e j x b)
theorem dE {a:Nat} (h: ∀e∈f.elems,∀x∈e,isPure x=true):selfO a f:=fun e b x c=>cG (h e b x c)
theorem Ad {c:List (List AV)} (h:gZ H e=some c): ∀b∈c,∀x∈b,isPure x=true:=by
 unfold gZ at h;split at h
 ·injection h with h
  subst h;intro b f x g;simp only[aai]at f;obtain⟨l,_,rfl⟩:=f;simp only[aai]at g;obtain⟨m,_,rfl⟩:=g;rfl
 ·injection h with h;subst h;intro b f;simp at f
 ·split at h
  ·split at h
   ·rename_i j;injection h with h
    subst h;simp only[aah]at j;exact fun b f x g=>j b (abr (abq f)) x g
   cases h
  cases h
 cases h
theorem DP {ev:Operand->Option TV} {n:Nat}: ∀(parts:List (Nat×Operand)) (i:Nat) (l:List (List AV)),pW ev n i parts=some l-> ∀e∈l,∀x∈e,isPure x=true
 |[],i,l,h=>by simp only[pW]at h;injection h with h;subst h;intro e b;simp at b
 |(k,x)::c,i,l,h=>by
  simp only[pW]at h;split at h
  ·rename_i p o m f;split at h
   ·rename_i j;injection h with h
    subst h;intro e b y g;rcases aaV.1 b with rfl|b
    ·have:=j.2.2;simp only[aah]at this;exact this y g
    exact DP c (i+1) o f e b y g
   cases h
  cases h
theorem Gc {i d:Nat} {ev:Operand->Option TV} {op:Op} {t:TV} {F:List OObj} (h:b9 P items ow i d ev H op=some (t,F)):selfTV d t/\(F=[]->noRefTV t=true)/\ ∀o∈F,selfO d o:=by
 cases op<;>simp only[b9]at h<;>try cases h
 case box e x=>
  split at h
  ·split at h
   ·rename_i u;injection h with h
    injection h with j m
    subst j m;refine⟨rfl,fun h=>by simp at h,fun o b=>?_⟩;simp at b;subst b;have:=u.1;simp only[aah]at this;exact dE (fun e p x g=>by simp at p;subst p;exact this x g)
   cases h
  cases h
 case alloc e=>
  split at h
  ·split at h
   ·injection h with h
    injection h with j m
    subst j m;refine⟨rfl,fun h=>by simp at h,fun o b=>?_⟩;simp at b;subst b;exact dE (fun e p x g=>by simp at p;subst p;simp at g;obtain⟨y,_,rfl⟩:=g;rfl)
   cases h
  cases h
 case makeSlice ty l c=>
  split at h
  ·split at h
   ·split at h
    ·injection h with h
     injection h with j m
     subst j m;refine⟨rfl,fun h=>by simp at h,fun o b=>?_⟩;simp at b;subst b;exact dE (fun e p x g=>by simp[aca]at p;rw[p.2]at g;simp at g;obtain⟨y,_,rfl⟩:=g;rfl)
    cases h
   cases h
  cases h
 case buildSlice ty n parts=>
  split at h
  ·split at h
   ·split at h
    ·rename_i l D;split at h
     ·split at h
      ·injection h with h
       injection h with j m
       subst j m;refine⟨rfl,fun h=>by simp at h,fun o b=>?_⟩;simp at b;subst b;exact dE (DP _ _ _ D)
      injection h with h
      injection h with j m
      subst j m;exact⟨trivial,fun _=>rfl,fun o b=>by simp at b⟩
     cases h
    cases h
   cases h
  cases h
 case call c=>
  split at h
  ·split at h
   ·rename_i I K w z;split at h
    ·rename_i u;injection h with h
     injection h with j m
     subst j m;refine⟨xX _ _,fun r=>?_,fun o b=>?_⟩
     ·have q:=u.2.2.2;simp only[aei]at r;rw[r]at q;exact Af (by simpa using q)
     simp only[aai]at b;obtain⟨J,_,rfl⟩:=b;intro e p x g;simp only[renO,aai]at p;obtain⟨B,_,rfl⟩:=p;simp only[aai]at g;obtain⟨y,_,rfl⟩:=g;exact dv d y
    cases h
   cases h
  ·split at h
   ·rename_i f v I K C w z;split at h
    ·rename_i u;injection h with h
     injection h with j m
     subst j m;refine⟨xX _ _,fun r=>?_,fun o b=>?_⟩
     ·have q:=u.2.2.2;simp only[aei]at r;rw[r]at q;exact Af (by simpa using q)
     simp only[aai]at b;obtain⟨J,_,rfl⟩:=b;intro e p x g;simp only[renO,aai]at p;obtain⟨B,_,rfl⟩:=p;simp only[aai]at g;obtain⟨y,_,rfl⟩:=g;exact dv d y
    cases h
   cases h
  ·split at h
   ·split at h
    ·rename_i A e L g G;split at h
     ·split at h
      ·injection h with h
       injection h with j m
       subst j m;refine⟨rfl,fun h=>by simp at h,fun o b=>?_⟩;simp at b;subst b;obtain⟨M,_,E⟩:=aaw.1 g;exact dE (Ad E)
      cases h
     cases h
    cases h
   cases h
  cases h
theorem kW {k:Nat->Nat->Bool} {x:AV} (h: ∀a r,H a≠[]->k a r=false->H' a≠[]) (b:fE H x):fE H' (aN k x):=by
 cases x with
 |sl a r e len=>
  simp only[aN];cases c:k a r with
  |true=>trivial
  |false=>exact h a r b c
 |ptr a r i j=>
  simp only[aN];cases c:k a r with
  |true=>trivial
  |false=>exact h a r b c
 |p x=>trivial
 |junk=>trivial
 |fn f a g=>
  simp only[aN];split
  ·trivial
  rename_i c;refine⟨?_,b.2⟩;cases g with
  |nil=>exact absurd rfl b.2
  |cons q l=>exact h a q.1 b.1 (by cases m:k a q.1<;>simp_all)
theorem ut {k:Nat->Nat->Bool} (h: ∀a r,H a≠[]->k a r=false->H' a≠[]) (g:gH H e):gH H' (aP k e):=by
 cases e with
 |one x=>exact kW h g
 |agg m=>intro y b;simp only[aai]at b;obtain⟨z,c,rfl⟩:=b;exact kW h (g z c)
 |fn f m=>intro y b;simp only[aai]at b;obtain⟨z,c,rfl⟩:=b;exact kW h (g z c)
 |tup o=>
  intro e l y b;simp only[aai]at l;obtain⟨n,j,rfl⟩:=l;simp only[aai]at b;obtain⟨z,c,rfl⟩:=b;exact kW h (g n j z c)
theorem rP {a:Nat} {l:List OObj} {o:OObj} (e: ∀o∈l,selfO a o) (b:selfO a f): ∀o∈l.set n f,selfO a o:=fun x c=>by
 rcases abm c with c|rfl
 ·exact e x c
 exact b
theorem rA {a i:Nat} {e h:List AV} (c:selfO a f) (l:f.elems[i]?=some e) (m: ∀x∈h,bs a x):selfO a {f with elems:=f.elems.set i (putCells e n h)}:=fun y g x b=>by
 rcases abm g with g|rfl
 ·exact c y g x b
 unfold putCells at b;simp only[abe]at b;rcases b with(b|b)|b
 ·exact c e (u5 l) x (abr b)
 ·exact m x b
 exact c e (u5 l) x (abq b)
theorem KR (K:lT s) {op:Op} {q:Fh} (h:gn P s.ev s.H op=some q):(∀a r,s.H a≠[]->q.k a r=false->q.H a≠[])/\(∀a,∀o∈q.H a,selfO a o)/\gH q.H q.t:=by
 have g: ∀H,gH H TV.undef:=fun H t ht=>by simp at ht
 have w: ∀{a r:Nat} {o:OObj} {F:List OObj},(s.H a)[r]?=some o->F.length>=(s.H a).length->(∀o∈F,selfO a o)->(∀(b r':Nat),s.H b≠[]->aw s.H a F b≠[])/\ ∀b,∀o∈aw s.H a F b,selfO b o:=fun{a r o F} C E hF=>by
  have Q:0<(s.H a).length:=by have:=(aaf.1 C).1;omega
  refine⟨fun b _ D=>?_,fun b T u=>?_⟩
  ·by_cases m:b=a
   ·subst m;rw[aM];intro U;rw[U]at E;simp at E;simp[E]at Q
   rw[aD m];exact D
  by_cases m:b=a
  ·subst m;rw[aM]at u;exact hF T u
  rw[aD m]at u;exact K.2 b T u
 cases op<;>simp only[gn]at h<;>try cases h
 case store t ad x=>
  split at h
  ·rename_i a r i j n ac Z;split at h
   ·rename_i o C;have B:=K.2 a o (u5 C);split at h
    ·rename_i e A;split at h
     ·rename_i L r' S len I;split at h
      ·rename_i M;subst M;split at h
       ·injection h with h
        subst h;obtain⟨G,J⟩:=w C (F:=(s.H L).set r {o with elems:=o.elems.set i (putCells e j [.sl L r' S len])}) (by simp) (rP (o:=o) (K.2 L) (rA B A (fun y l=>by simp at l;subst l;rfl)));exact⟨fun b r D _=>G b r D,J,g _⟩
       cases h
      rename_i M;split at h
      ·rename_i ob hH;split at h
       ·rename_i N;injection h with h
        subst h;have O:=N.2.2.2.2.2.2;simp only[aah]at O;obtain⟨G,J⟩:=w C (F:=(s.H a).set r {o with elems:=o.elems.set i (putCells e j [.sl a (s.H a).length 0 len])}++[ob]) (by simp) (fun y l=>by
         rcases abe.1 l with l|l
         ·exact rP (o:=o) (K.2 a) (rA B A (fun y l=>by simp at l;subst l;rfl)) y l
         simp at l;subst l;exact dE O)
        refine⟨fun b r D hk=>?_,fun b T u=>?_,g _⟩
        ·have m:b≠L:=by simpa using hk
         show aw _ L [] b≠[];rw[aD m];exact G b r D
        by_cases m:b=L
        ·subst m;simp only[aM]at u;simp at u
        simp only[aD m]at u;exact J b T u
       cases h
      cases h
     ·rename_i f Y I;split at h
      ·rename_i qs ag;split at h
       ·rename_i N;injection h with h
        subst h;obtain⟨G,J⟩:=w C (F:=(s.H a).set r {o with elems:=o.elems.set i (putCells e j [.fn f a qs])}) (by simp) (rP (o:=o) (K.2 a) (rA B A (fun y l=>by simp at l;subst l;exact⟨rfl,acv N.2.2⟩)));exact⟨fun b r D _=>G b r D,J,g _⟩
       cases h
      cases h
     ·rename_i v hv hv2 I;split at h
      ·rename_i Y af;split at h
       ·rename_i N;injection h with h
        subst h;have O:=N.2.2;simp only[aah]at O;obtain⟨G,J⟩:=w C (F:=(s.H a).set r {o with elems:=o.elems.set i (putCells e j Y)}) (by simp) (rP (o:=o) (K.2 a) (rA B A (fun y l=>Ah (O y l))));exact⟨fun b r D _=>G b r D,J,g _⟩
       cases h
      cases h
     cases h
    cases h
   cases h
  cases h
 case call c=>
  split at h
  ·split at h
   ·rename_i a r S len R e hs I ah;split at h
    ·rename_i o z sz ab C hz aa ae;split at h
     ·injection h with h
      subst h;obtain⟨tx,_,Z⟩:=aaw.1 I;have B:=K.2 a o (u5 C);obtain⟨G,J⟩:=w C (F:=((s.H a).map (jC fun x y=>x==a&&y==r)).set r {o with elems:=o.elems++R}) (by simp) (fun y l=>by
       rcases abm l with l|rfl
       ·simp only[aai]at l;obtain⟨o2,W,rfl⟩:=l;intro e A x I;simp only[jC,aai]at A;obtain⟨e',V,rfl⟩:=A;simp only[aai]at I;obtain⟨x',X,rfl⟩:=I;have:=K.2 a o2 W e' V x' X;cases x' with
        |sl b _ _ _=>simp only[aN];split;trivial;exact this
        |ptr b _ _ _=>simp only[aN];split;trivial;exact this
        |fn _ b _=>simp only[aN];split;trivial;exact this
        |p x=>trivial
        |junk=>trivial
       intro e A x I;rcases abe.1 A with A|A
       ·exact B e A x I
       exact cG (Ad Z e A x I))
      refine⟨fun b r D _=>G b r D,J,?_⟩;exact G a r (by intro U;rw[U]at C;simp at C)
     cases h
    cases h
   cases h
  cases h
theorem AW {i:Nat} (f:lT s) (h:aS P items ow ops i c s=some s1):lT s1:=by
 rw[bN]at h;obtain⟨out,e,h⟩:=aaw.1 h;unfold cX at e;have j:gH s.H TV.undef:=fun t m=>by simp at m
 split at e
 ·unfold lf at e;split at e
  ·obtain⟨t,m,rfl⟩:=u6.1 e;simp only[b6]at h;injection h with h;subst h
   exact mf f (KT f m)
  split at e
  ·obtain⟨t,m,rfl⟩:=u6.1 e;simp only[b6]at h;injection h with h;subst h
   exact mf f (KU f m)
  split at e
  ·rename_i q G;injection e with e
   subst e;simp only[b6]at h;injection h with h;subst h
   obtain⟨z,A,B⟩:=KR f G;refine mf ⟨fun t x p=>?_,A⟩ B;simp only[u9]at p;obtain⟨y,I,rfl⟩:=u6.1 p;exact ut z (f.1 t y I)
  split at e
  ·cases e
  rename_i d D;cases r:b9 P items ow i d s.ev s.H c.op with
  |none=>rw[r]at e;cases e
  |some J=>
   obtain⟨t,F⟩:=J;rw[r]at e;obtain⟨f1,f2,f3⟩:=Gc r;cases F with
   |nil=>
    simp only[GU]at e;injection e with e
    subst e;simp only[b6]at h;injection h with h;subst h
    exact mf f (GP (f2 rfl))
   |cons v l=>
    simp only[GU]at e;injection e with e
    subst e;simp only[b6,D]at h;split at h
    ·rename_i C;injection h with h
     subst h;refine mf ⟨fun k x p=>?_,fun b w g=>?_⟩ (Ev f1 (by simp[aM]))
     ·have:=f.1 k x p;have E: ∀a,s.H a≠[]->aw s.H d (v::l) a≠[]:=fun a n=>by rw[aD (by rintro rfl;exact n C)];exact n
      have:=ut (H':=aw s.H d (v::l)) (k:=fun _ _=>false) (fun a _ n _=>E a n) this;rwa[mN]at this
     by_cases u:b=d
     ·subst u;simp only[aM]at g;exact f3 w g
     simp only[aD u]at g;exact f.2 b w g
    cases h
 ·injection e with e
  subst e;simp only[b6]at h;injection h with h;subst h
  exact mf f j
 cases e
end
end
end Go.Proofs.YtalmoejhjceflaaGreat
