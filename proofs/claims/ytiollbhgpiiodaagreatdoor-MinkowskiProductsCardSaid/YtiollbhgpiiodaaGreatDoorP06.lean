/-
  Part 7 of a proof (walks and plain facts).
-/
import Derived.Test.YtiollbhgpiiodaaGreatDoorP05
set_option linter.all false
set_option maxRecDepth 100000
set_option maxHeartbeats 64000000
open Option renaming map_some → ai
open List renaming all_eq_true → ak
open List renaming mem_map → an
open List renaming mem_of_getElem? → ax
open List renaming getElem?_map → aA
namespace Go.Proofs.YtiollbhgpiiodaaGreatDoor
open Go.RowKit
section
section
variable {P:Program} {s s':AS} {H H':OH}
def yl (H H':OH):Prop:= ∀a,H a≠[]->H' a=H a
def qH (H H':OH):AV->Prop
 | .sl a _ _ _=>H' a=H a
 | .ptr a _ _ _=>H' a=H a
 |_=>True
def j6 (H H':OH):TV->Prop
 | .one x=>qH H H' x
 | .agg cs=> ∀x∈cs,qH H H' x
 | .fn _ cs=> ∀x∈cs,qH H H' x
 | .tup ts=> ∀t∈ts,∀x∈t.2,qH H H' x
theorem jM {x:AV} (h:fC H x) (g:yl H H'):qH H H' x:=by
 cases x with
 |sl a _ _ _=>exact g a h
 |ptr a _ _ _=>exact g a h
 |p x=>trivial
 |junk=>trivial
theorem zY {t:TV} (h:f4 H t) (g:yl H H'):j6 H H' t:=by
 cases t with
 |one x=>exact jM h g
 |agg cs=>exact fun x hx=>jM (h x hx) g
 |fn f cs=>exact fun x hx=>jM (h x hx) g
 |tup ts=>exact fun t ht x hx=>jM (h t ht x hx) g
theorem jN (x:AV):qH H H x:=by cases x<;>first|rfl|trivial
theorem zZ (t:TV):j6 H H t:=by
 cases t with
 |one x=>exact jN x
 |agg cs=>exact fun x _=>jN x
 |fn f cs=>exact fun x _=>jN x
 |tup ts=>exact fun t _ x _=>jN x
theorem s9 {ev ev':Operand->Option TV} {op:Op} (h: ∀x∈op.operands,ev x=ev' x):jh P ev op=jh P ev' op:=by
 cases op<;>simp only[Op.operands]at h<;>simp only[jh]
 case call c=>
  have e:c.args.toList.map ev=c.args.toList.map ev':=List.map_congr_left fun x hx=>h x (by simp only[Call.operands,Array.mem_append];exact .inr (Array.mem_toList_iff.1 hx))
  unfold Pr;rw[e]
 case move x=>exact h x (by simp)
 case assign x=>exact h x (by simp)
 case pick c a b=>rw[h c (by simp),h a (by simp),h b (by simp)]
 case binOp op t x y t'=>rw[h x (by simp),h y (by simp)]
 case unOp op t x=>rw[h x (by simp)]
 case convert a b x=>rw[h x (by simp)]
 case extract x k=>rw[h x (by simp)]
theorem yU (k:Nat->Nat->Bool): ∀(xs ys:List AV),Bm (xs.map (bA k)) (ys.map (bA k))=Bm xs ys
 |[],[]=>rfl
 |[],_::_=>rfl
 |x::xs,[]=>by
  simp only[List.map_cons,List.map_nil];cases x with
  |p x=>cases x with
   |raw v=>cases v<;>rfl
   |sl _=>rfl
   |ptr _=>rfl
  |sl a r off len=>simp only[bA];split<;>rfl
  |ptr a r i j=>simp only[bA];split<;>rfl
  |junk=>rfl
 |x::xs,y::ys=>by
  have ih:=yU k xs ys;simp only[List.map_cons];cases x with
  |p x=>cases x with
   |raw v=>
    cases v
    case int k1 a=>
     cases y with
     |p y=>cases y with
      |raw u=>cases u<;>first|rfl|simp only[bA,Bm,ih]
      |sl _=>rfl
      |ptr _=>rfl
     |sl a r off len=>simp only[bA];split<;>rfl
     |ptr a r i j=>simp only[bA];split<;>rfl
     |junk=>rfl
    all_goals rfl
   |sl _=>rfl
   |ptr _=>rfl
  |sl a r off len=>simp only[bA];split<;>rfl
  |ptr a r i j=>simp only[bA];split<;>rfl
  |junk=>rfl
theorem Ff (k:Nat->Nat->Bool) (t:TV):tJ (bv k t)=tJ t:=by
 cases t with
 |one x=>
  cases x with
  |p x=>rfl
  |sl a r off len=>simp only[bv,bA];split<;>rfl
  |ptr a r i j=>simp only[bv,bA];split<;>rfl
  |junk=>rfl
 |agg cs=>rfl
 |fn f cs=>rfl
 |tup ts=>rfl
theorem tK (k:Nat->Nat->Bool) (t:Option TV):(t.map (bv k)).bind tJ=t.bind tJ:=by
 cases t with
 |none=>rfl
 |some t=>exact Ff k t
theorem zw (k:Nat->Nat->Bool) (f:Int->Int->Int) (l:List (Option TV)):J3 f (l.map (Option.map (bv k)))=(J3 f l).map (bv k):=by
 have key: ∀(t:TV) v,bv k t= .one (.p (.raw v))↔t= .one (.p (.raw v)):=fun t v=>by
  cases t with
  |one x=>
   cases x with
   |p x=>exact Iff.rfl
   |sl a r off len=>simp only[bv,bA];split<;>simp
   |ptr a r i j=>simp only[bv,bA];split<;>simp
   |junk=>simp[bv,bA]
  |agg cs=>simp[bv]
  |fn f cs=>simp[bv]
  |tup ts=>simp[bv]
 have inv: ∀(o:Option TV) v,o.map (bv k)=some (.one (.p (.raw v)))->o=some (.one (.p (.raw v))):=fun o v h=>by
  cases o with
  |none=>cases h
  |some t=>injection h with h;rw[(key t v).1 h]
 cases h:J3 f l with
 |some t=>
  obtain⟨c,c',a,b,rfl,rfl⟩:=kt h;rfl
 |none=>
  cases h2:J3 f (l.map (Option.map (bv k)))with
  |none=>rfl
  |some t=>
   obtain⟨c,c',a,b,e,_⟩:=kt h2;obtain⟨x,y,rfl,e1,e2⟩:=xz e;rw[inv _ _ e1,inv _ _ e2]at h;cases h
theorem EC (k:Nat->Nat->Bool) {ev:Operand->Option TV} {op:Op}:jh P (fun x=>(ev x).map (bv k)) op=(jh P ev op).map (bv k):=by
 have key: ∀(t:TV) v,bv k t= .one (.p (.raw v))↔t= .one (.p (.raw v)):=fun t v=>by
  cases t with
  |one x=>
   cases x with
   |p x=>exact Iff.rfl
   |sl a r off len=>simp only[bv,bA];split<;>simp
   |ptr a r i j=>simp only[bv,bA];split<;>simp
   |junk=>simp[bv,bA]
  |agg cs=>simp[bv]
  |fn f cs=>simp[bv]
  |tup ts=>simp[bv]
 cases op<;>simp only[jh]<;>try rfl
 case call c=>
  unfold Pr;have e:c.args.toList.map (fun x=>(ev x).map (bv k))=(c.args.toList.map ev).map (Option.map (bv k)):=by rw[List.map_map];rfl
  rw[e];split
  ·exact zw k _ _
  ·exact zw k _ _
  rfl
 case pick c a b=>
  cases hc:ev c with
  |none=>rfl
  |some t=>
   simp only[ai];by_cases h1:t= .one (.p (.raw (.bool true)))
   ·subst h1;rfl
   by_cases h2:t= .one (.p (.raw (.bool false)))
   ·subst h2;rfl
   have e1: ∀b,bv k t≠ .one (.p (.raw (.bool b))):=fun b he=>by
    have:=(key t _).1 he;cases b
    ·exact h2 this
    exact h1 this
   split
   ·rename_i he;injection he with he;exact absurd he (e1 _)
   ·rename_i he;injection he with he;exact absurd he (e1 _)
   split
   ·rename_i he;injection he with he;exact absurd he h1
   ·rename_i he;injection he with he;exact absurd he h2
   rfl
 case binOp op t x y t'=>
  by_cases hnil:Bw y=true
  ·rw[if_pos hnil,if_pos hnil];unfold v8;rw[tK,tK];split<;>rfl
  rw[if_neg hnil,if_neg hnil];cases hx:ev x with
  |none=>rfl
  |some tx=>
   cases hy:ev y with
   |none=>
    simp only[ai,Option.map_none];split
    ·rename_i he;cases he
    ·rename_i he;cases he
    rfl
   |some ty=>
    simp only[ai];by_cases h1: ∃a b,tx= .one (.p (.raw a))/\ty= .one (.p (.raw b))
    ·obtain⟨a,b,rfl,rfl⟩:=h1;simp only[bv,bA];cases vI (sJ P t) op a b<;>rfl
    by_cases h2: ∃xs ys,tx= .agg xs/\ty= .agg ys
    ·obtain⟨xs,ys,rfl,rfl⟩:=h2;simp only[bv,vH,List.length_map,yU];split
     ·split<;>rfl
     ·split<;>rfl
     rfl
    have keya: ∀(t:TV) cs,bv k t= .agg cs-> ∃cs',t= .agg cs':=fun t cs ht=>by
     cases t<;>simp[bv]at ht;exact⟨_,rfl⟩
    split
    ·rename_i a b ha hb;injection ha with ha
     injection hb with hb
     exact absurd ⟨a,b,(key _ _).1 ha,(key _ _).1 hb⟩ h1
    ·rename_i a b ha hb;injection ha with ha
     injection hb with hb
     obtain⟨c1,e1⟩:=keya _ _ ha;obtain⟨c2,e2⟩:=keya _ _ hb;exact absurd ⟨c1,c2,e1,e2⟩ h2
    split
    ·rename_i a b ha hb;injection ha with ha
     injection hb with hb
     exact absurd ⟨a,b,ha,hb⟩ h1
    ·rename_i a b ha hb;injection ha with ha
     injection hb with hb
     exact absurd ⟨a,b,ha,hb⟩ h2
    rfl
 case unOp op t x=>
  cases hx:ev x with
  |none=>rfl
  |some tx=>
   simp only[ai];by_cases h1: ∃a,tx= .one (.p (.raw a))
   ·obtain⟨a,rfl⟩:=h1;simp only[bv,bA];cases EG op a<;>rfl
   split
   ·rename_i a ha;injection ha with ha;exact absurd ⟨a,(key _ _).1 ha⟩ h1
   split
   ·rename_i a ha;injection ha with ha;exact absurd ⟨a,ha⟩ h1
   rfl
 case convert a b x=>
  cases hx:ev x with
  |none=>rfl
  |some tx=>
   simp only[ai];by_cases h1: ∃q n,tx= .one (.p (.raw (.int q n)))
   ·obtain⟨q,n,rfl⟩:=h1;simp only[bv,bA];cases P.underlying a with
    |none=>rfl
    |some u=>cases uX P b<;>rfl
   split
   ·rename_i q n _ _ ha _ _;injection ha with ha;exact absurd ⟨_,_,(key _ _).1 ha⟩ h1
   split
   ·rename_i q n _ _ ha _ _;injection ha with ha;exact absurd ⟨_,_,ha⟩ h1
   rfl
 case extract x i=>
  cases hx:ev x with
  |none=>rfl
  |some tx=>
   cases tx with
   |one y=>rfl
   |agg cs=>rfl
   |fn f cs=>rfl
   |tup ts=>
    simp only[ai,bv,aA];cases hi:ts[i]? with
    |none=>rfl
    |some t=>
     obtain⟨b,cs⟩:=t;cases b with
     |true=>rfl
     |false=>
      cases cs with
      |nil=>rfl
      |cons y l=>cases l<;>rfl
theorem io {ev ev':Operand->Option TV} {x:Option Operand} {d:Nat} (h: ∀y,x=some y->ev y=ev' y):dW ev x d=dW ev' x d:=by
 cases x with
 |none=>rfl
 |some y=>simp only[dW,h y rfl]
theorem tf {pl:List (Nat×Nat)} {ev ev':Operand->Option TV}: ∀(parts:List (Nat×Operand)) (cs:List AV),(∀p∈parts,ev p.2=ev' p.2)->ip pl ev cs parts=ip pl ev' cs parts
 |[],cs,_=>rfl
 |(f,x)::rest,cs,h=>by
  simp only[ip,h (f,x) (by simp)];split
  ·split
   ·exact tf rest _ (fun p hp=>h p (by simp[hp]))
   rfl
  rfl
theorem vP {n:Nat} {ev ev':Operand->Option TV}: ∀(parts:List (Nat×Operand)) (i:Nat),(∀p∈parts,ev p.2=ev' p.2)->oB ev n i parts=oB ev' n i parts
 |[],i,_=>rfl
 |(f,x)::rest,i,h=>by
  simp only[oB,h (f,x) (by simp),vP rest (i+1) (fun p hp=>h p (by simp[hp]))]
theorem mo {ev ev':Operand->Option TV}: ∀(l:List Operand),(∀x∈l,ev x=ev' x)->fK ev l=fK ev' l
 |[],_=>rfl
 |x::l,h=>by simp only[fK,h x (by simp),mo l (fun y hy=>h y (by simp[hy]))]
theorem ta {ev ev':Operand->Option TV} {op:Op} (h: ∀x∈op.operands,ev x=ev' x) (hl: ∀x∈op.operands,∀t,ev x=some t->j6 H H' t):ca P ev H op=ca P ev' H' op:=by
 cases op<;>simp only[Op.operands]at h hl<;>try (simp only[ca];done)
 case load t x=>
  simp only[ca,<- h x (by simp)];cases hx:ev x with
  |none=>rfl
  |some tx=>
   have:=hl x (by simp) tx hx;cases tx with
   |one y=>
    cases y with
    |ptr a r i j=>simp only[show H' a=H a from this]
    |p y=>cases y<;>rfl
    |sl a r off len=>rfl
    |junk=>rfl
   |agg cs=>rfl
   |fn f cs=>rfl
   |tup ts=>rfl
 case indexAddr t x ix=>
  simp only[ca,<- h x (by simp),<- h ix (by simp)];cases dB P t with
  |none=>
   cases hx:ev x with
   |none=>rfl
   |some tx=>
    cases tx with
    |one y=>
     cases y with
     |p y=>
      cases y with
      |raw v=>
       cases v with
       |pointer a=>
        cases a with
        |none=>rfl
        |some a=>
         obtain⟨b,off,sp⟩:=a;cases sp<;>rfl
       |_=>rfl
      |sl xs=>rfl
      |ptr cs=>rfl
     |sl a r off len=>rfl
     |ptr a r i j=>rfl
     |junk=>rfl
    |agg cs=>rfl
    |fn f cs=>rfl
    |tup ts=>rfl
  |some e=>
   cases hx:ev x with
   |none=>rfl
   |some tx=>
    have:=hl x (by simp) tx hx;cases tx with
    |one y=>
     cases y with
     |sl a r off len=>simp only[show H' a=H a from this]
     |p y=>cases y<;>rfl
     |ptr a r i j=>rfl
     |junk=>rfl
    |agg cs=>rfl
    |fn f cs=>rfl
    |tup ts=>rfl
 case index t x ix=>simp only[ca,<- h x (by simp),<- h ix (by simp)]
 case fieldAddr t x f=>simp only[ca,<- h x (by simp)]
 case field t x f=>simp only[ca,<- h x (by simp)]
 case slice t x lo hi mx=>
  cases mx with
  |some m=>
   cases lo with
   |none=>simp only[ca]
   |some lo=>
   cases hi with
   |none=>simp only[ca]
   |some hi=>
   simp only[ca,<- h x (by simp)];have hlo:dW ev (some lo) 0=dW ev' (some lo) 0:=io fun y hy=>h y (by injection hy with hy;subst hy;simp)
   have hhi:dW ev (some hi) 0=dW ev' (some hi) 0:=io fun y hy=>h y (by injection hy with hy;subst hy;simp)
   have hmx:dW ev (some m) 0=dW ev' (some m) 0:=io fun y hy=>h y (by injection hy with hy;subst hy;simp)
   simp only[hlo,hhi,hmx];cases dB P t with
   |none=>rfl
   |some e=>
    cases hx:ev x with
    |none=>rfl
    |some tx=>
     have:=hl x (by simp) tx hx;cases tx with
     |one y=>
      cases y with
      |sl a r off len=>simp only[show H' a=H a from this]
      |p y=>cases y<;>rfl
      |ptr a r i j=>rfl
      |junk=>rfl
     |agg cs=>rfl
     |fn f cs=>rfl
     |tup ts=>rfl
  |none=>
   simp only[ca,<- h x (by simp)];have hlo: ∀d,dW ev lo d=dW ev' lo d:=fun d=>io fun y hy=>h y (by subst hy;simp)
   have hhi: ∀d,dW ev hi d=dW ev' hi d:=fun d=>io fun y hy=>h y (by subst hy;cases lo<;>simp)
   simp only[hlo,hhi];cases dB P t with
   |none=>rfl
   |some e=>
    cases hx:ev x with
    |none=>rfl
    |some tx=>
     have:=hl x (by simp) tx hx;cases tx with
     |one y=>
      cases y with
      |sl a r off len=>simp only[show H' a=H a from this]
      |p y=>cases y<;>rfl
      |ptr a r i j=>rfl
      |junk=>rfl
     |agg cs=>rfl
     |fn f cs=>rfl
     |tup ts=>rfl
 case build t parts=>
  simp only[ca];have: ∀pl cs,ip pl ev cs parts.toList=ip pl ev' cs parts.toList:=fun pl cs=>tf _ _ (fun p hp=>h p.2 (by simp only[List.mem_toArray,an];exact⟨p,hp,rfl⟩))
  simp only[this]
 case nilCheck x=>simp only[ca,<- h x (by simp)]
 case makeFunc fn first captured=>
  cases fn with
  |func f=>
   simp only[ca];rw[mo captured.toList (fun x hx=>h x (by simp at hx⊢;exact .inr hx))]
  |_=>simp only[ca]
 case call c=>
  obtain⟨callee,⟨args⟩,⟨argTypes⟩⟩:=c;cases callee with
  |builtin b=>
   cases b<;>try (simp only[ca];done)
   simp only[ca];simp only[Call.operands]at h;split
   ·rename_i x t;rw[h x (by simp)]
   rfl
  |value f=>simp only[ca]
  |invoke r m=>simp only[ca]
 all_goals rfl
theorem N8 (x:PV):gn H' (.one (.p x))=gn H (.one (.p x)):=by
 have key: ∀G:OH,gn G (.one (.p x))= .one (.p x)\/(x= .raw (.slice none 0 0)/\gn G (.one (.p x))= .one (.p (.sl []))):=fun G=>by
  unfold gn;split
  ·rename_i heq;cases heq
  ·rename_i heq;injection heq with heq;injection heq with heq;exact .inr ⟨heq,rfl⟩
  exact .inl rfl
 by_cases hx:x= .raw (.slice none 0 0)
 ·subst hx;rfl
 rcases key H with h1|⟨h1,_⟩
 ·rcases key H' with h2|⟨h2,_⟩
  ·rw[h1,h2]
  exact absurd h2 hx
 exact absurd h1 hx
theorem N7 (x:PV):f5 H' (.one (.p x))=f5 H (.one (.p x)):=by
 unfold f5;split
 ·rename_i heq;injection heq with heq;injection heq with heq;subst heq;rfl
 ·rename_i heq;injection heq with heq;injection heq with heq;subst heq;rfl
 ·rename_i heq;cases heq
 rfl
theorem iZ {t:TV} (hl:j6 H H' t):gn H' t=gn H t/\ ∀b,eo b H' t=eo b H t:=by
 cases t with
 |one x=>
  cases x with
  |sl a r off len=>exact⟨by simp only[gn,show H' a=H a from hl],fun b=>by simp only[eo,show H' a=H a from hl]⟩
  |p x=>exact⟨N8 x,fun b=>rfl⟩
  |ptr a r i j=>exact⟨rfl,fun b=>rfl⟩
  |junk=>exact⟨rfl,fun b=>rfl⟩
 |agg cs=>exact⟨rfl,fun b=>rfl⟩
 |fn f cs=>exact⟨rfl,fun b=>rfl⟩
 |tup ts=>exact⟨rfl,fun b=>rfl⟩
theorem Fd {t:TV} (hl:j6 H H' t):f5 H' t=f5 H t:=by
 cases t with
 |one x=>
  cases x with
  |sl a r off len=>simp only[f5,show H' a=H a from hl]
  |p x=>exact N7 x
  |ptr a r i j=>rfl
  |junk=>rfl
 |agg cs=>rfl
 |fn f cs=>rfl
 |tup ts=>rfl
theorem A7 {items:List (dN P)} {ow:List Nat} {i d:Nat} {ev ev':Operand->Option TV} {op:Op} (h: ∀x∈op.operands,ev x=ev' x) (hl: ∀x∈op.operands,∀t,ev x=some t->j6 H H' t):da P items ow i d ev H op=da P items ow i d ev' H' op:=by
 cases op<;>simp only[Op.operands]at h hl<;>try (simp only[da];done)
 case box e x=>simp only[da,<- h x (by simp)]
 case makeSlice t l c=>simp only[da,<- h l (by simp),<- h c (by simp)]
 case buildSlice t n parts=>
  simp only[da];have: ∀n i,oB ev n i parts.toList=oB ev' n i parts.toList:=fun n i=>vP _ _ (fun p hp=>h p.2 (by simp only[List.mem_toArray,an];exact⟨p,hp,rfl⟩))
  simp only[this]
 case call c=>
  obtain⟨callee,⟨args⟩,⟨argTypes⟩⟩:=c;simp only[Call.operands]at h hl;cases callee with
  |value f=>
   have he:fK ev args=fK ev' args:=mo args (fun x hx=>h x (by simp[hx]));cases f<;>try (simp only[da];done)
   ·rename_i k;simp only[da];rw[<- he,<- h (.tmp k) (by simp)];cases hcl:Er (ev (.tmp k))with
    |none=>cases List.find? (fun x=>x.i==i) items<;>cases fK ev args<;>rfl
    |some fe=>
     obtain⟨f,extra⟩:=fe;cases hts:fK ev args with
     |none=>cases List.find? (fun x=>x.i==i) items<;>rfl
     |some ts0=>
      have hex: ∀t∈extra,j6 H H' t:=fun t ht=>by
       unfold Er at hcl;split at hcl
       ·rename_i f' cs hk;injection hcl with hcl
        injection hcl with hcl hcl'
        subst hcl hcl';have hs:=hl (.tmp k) (by simp) _ hk;simp only[an]at ht;obtain⟨y,hy,rfl⟩:=ht;exact hs y hy
       ·split at hcl
        ·injection hcl with hcl
         injection hcl with hcl hcl'
         subst hcl hcl';simp at ht
        cases hcl
       cases hcl
      have hlv: ∀t∈ts0++extra,j6 H H' t:=fun t ht=>by
       rcases List.mem_append.1 ht with ht|ht
       ·obtain⟨j,hj,rfl⟩:=List.getElem_of_mem ht;obtain⟨x,hx,hxt⟩:=(dH hts).2 j _ (List.getElem?_eq_getElem hj);exact hl x (by simp[ax hx]) _ hxt
       exact hex t ht
      have e1:(ts0++extra).map (gn H')=(ts0++extra).map (gn H):=List.map_congr_left fun t ht=>(iZ (hlv t ht)).1
      have e2: ∀b,(ts0++extra).all (eo b H')=(ts0++extra).all (eo b H):=fun b=>by
       rw[Bool.eq_iff_iff];simp only[ak];exact⟨fun hh t ht=>by rw[<- (iZ (hlv t ht)).2 b];exact hh t ht,fun hh t ht=>by rw[(iZ (hlv t ht)).2 b];exact hh t ht⟩
      cases List.find? (fun x=>x.i==i) items with
      |none=>rfl
      |some it=>
       have ec:(it.f=f/\(ts0++extra).map (gn H')=it.args/\(ts0++extra).all (eo it.res.plain H')=true/\(!it.res.fam.isEmpty||noRefTV it.res.r)=true)↔(it.f=f/\(ts0++extra).map (gn H)=it.args/\(ts0++extra).all (eo it.res.plain H)=true/\(!it.res.fam.isEmpty||noRefTV it.res.r)=true):=by rw[e1,e2]
       by_cases hc:it.f=f/\(ts0++extra).map (gn H)=it.args/\(ts0++extra).all (eo it.res.plain H)=true/\(!it.res.fam.isEmpty||noRefTV it.res.r)=true
       ·simp only[];rw[if_pos hc,if_pos (ec.2 hc)]
       simp only[];rw[if_neg hc,if_neg (fun h=>hc (ec.1 h))]
   rename_i f;simp only[da];rw[<- he];cases hts:fK ev args with
   |none=>cases List.find? (fun x=>x.i==i) items<;>rfl
   |some ts=>
    have hlv: ∀t∈ts,j6 H H' t:=fun t ht=>by
     obtain⟨k,hk,rfl⟩:=List.getElem_of_mem ht;obtain⟨x,hx,hxt⟩:=(dH hts).2 k _ (List.getElem?_eq_getElem hk);exact hl x (by simp[ax hx]) _ hxt
    have e1:ts.map (gn H')=ts.map (gn H):=List.map_congr_left fun t ht=>(iZ (hlv t ht)).1
    have e2: ∀b,ts.all (eo b H')=ts.all (eo b H):=fun b=>by
     rw[Bool.eq_iff_iff];simp only[ak];exact⟨fun hh t ht=>by rw[<- (iZ (hlv t ht)).2 b];exact hh t ht,fun hh t ht=>by rw[(iZ (hlv t ht)).2 b];exact hh t ht⟩
    cases List.find? (fun x=>x.i==i) items with
    |none=>rfl
    |some it=>
     have ec:(it.f=f/\ts.map (gn H')=it.args/\ts.all (eo it.res.plain H')=true/\(!it.res.fam.isEmpty||noRefTV it.res.r)=true)↔(it.f=f/\ts.map (gn H)=it.args/\ts.all (eo it.res.plain H)=true/\(!it.res.fam.isEmpty||noRefTV it.res.r)=true):=by rw[e1,e2]
     by_cases hc:it.f=f/\ts.map (gn H)=it.args/\ts.all (eo it.res.plain H)=true/\(!it.res.fam.isEmpty||noRefTV it.res.r)=true
     ·simp only[];rw[if_pos hc,if_pos (ec.2 hc)]
     simp only[];rw[if_neg hc,if_neg (fun h=>hc (ec.1 h))]
  |builtin b=>
   cases b<;>try (simp only[da];done)
   simp only[da];split
   ·rename_i x y t t';rw[<- h x (by simp),<- h y (by simp)];have e1:(ev y).bind (f5 H')=(ev y).bind (f5 H):=by
     cases hy:ev y with
     |none=>rfl
     |some ty=>exact Fd (hl y (by simp) ty hy)
    rw[e1]
   rfl
  |invoke r m=>simp only[da]
end
end
section
inductive Kg where
 |val (t:TV)
 |new (t:TV) (o:OObj) (l:List OObj)
 |wr (q:AA)
section
variable (P:Program) (items:List (dN P)) (ow:List Nat)
noncomputable def Fo (r:Option (TV×List OObj)):Option Kg:=match r with
 |some (t,[])=>some (.val t)
 |some (t,o::l)=>some (.new t o l)
 |none=>none
noncomputable def kw (i:Nat) (d:Option Tmp) (op:Op) (ev:Operand->Option TV) (H:OH):Option Kg:=
 if xo op then(jh P ev op).map .val
 else if KV op then(ca P ev H op).map .val
 else match fJ P ev H op with
  |some q=>some (.wr q)
  |none=>match d with
   |none=>none
   |some d=>Fo (da P items ow i d ev H op)
def cy (d:Option Tmp) (s:AS):Kg->Option AS
 | .val t=>some (s.put d t)
 | .new t o l=>match d with
  |some d=>(match s.H d with|[]=>some (AS.put ⟨s.tmps,bs s.H d (o::l)⟩ (some d) t)|_=>none)
  |none=>none
 | .wr q=>some (AS.put ⟨s.tmps.map (bv q.k),q.H⟩ d q.t)
theorem vo (i:Nat) (o:Oper) (s:AS):eF P items ow i o s=(kw P items ow i o.dst o.op s.ev s.H).bind (cy o.dst s):=by
 unfold eF kw;split
 ·cases jh P s.ev o.op<;>rfl
 split
 ·cases ca P s.ev s.H o.op<;>rfl
 cases fJ P s.ev s.H o.op with
 |some q=>rfl
 |none=>
  cases hd:o.dst with
  |none=>rfl
  |some d=>
   simp only;cases hA:da P items ow i d s.ev s.H o.op with
   |none=>rfl
   |some tF=>
    obtain⟨t,F⟩:=tF;cases F with
    |nil=>rfl
    |cons o' l=>simp only[Fo,Option.bind_some,cy];cases s.H d<;>rfl
def gate (ops:Array Oper) (o:Oper) (s:AS):Option Bool:=match o.guard with
 |none=>some true
 |some (g,want)=>match(ops[g]?).bind (·.dst)with
  |none=>none
  |some d=>match s.tmps[d]? with
   |some (.one (.p (.raw (.bool b))))=>some (b==want)
   |some (.tup [])=>some false
   |_=>none
noncomputable def dj (ops:Array Oper) (i:Nat) (o:Oper) (s:AS):Option Kg:=match gate ops o s with
 |some true=>kw P items ow i o.dst o.op s.ev s.H
 |some false=>some (.val .undef)
 |none=>none
theorem bW (ops:Array Oper) (i:Nat) (o:Oper) (s:AS):cf P items ow ops i o s=(dj P items ow ops i o s).bind (cy o.dst s):=by
 unfold cf dj gate;cases hg:o.guard with
 |none=>simp only;exact vo P items ow i o s
 |some gw=>
  obtain⟨g,want⟩:=gw;simp only;cases(ops[g]?).bind (·.dst)with
  |none=>rfl
  |some d=>
   simp only;cases hs:s.tmps[d]? with
   |none=>rfl
   |some t=>
    cases t with
    |agg cs=>rfl
    |fn f cs=>rfl
    |tup ts=>cases ts<;>rfl
    |one x=>
     cases x with
     |sl a r off len=>rfl
     |ptr a r i j=>rfl
     |junk=>rfl
     |p x=>
      cases x with
      |sl xs=>rfl
      |ptr cs=>rfl
      |raw v=>
       cases v<;>try rfl
       rename_i b;simp only;by_cases hbw:b=want
       ·subst hbw;simp only[if_true,beq_self_eq_true];exact vo P items ow i o s
       rw[if_neg hbw];have:(b==want)=false:=by simpa using hbw
       rw[this];rfl
variable {P} {items} {ow}
variable {ops:Array Oper} {s s1 s2 s':AS} {H H':OH}
theorem pA (s:AS) (d:Option Tmp) (t:TV) (k:Nat) (h: ∀e,d=some e->e≠k):(s.put d t).tmps[k]?=s.tmps[k]?:=by
 cases d with
 |none=>rfl
 |some e=>simp only[AS.put];exact List.getElem?_set_ne (h e rfl)
theorem Of (s:AS) (d:Option Tmp) (t:TV) {x:Operand} (h: ∀e,d=some e->x≠ .tmp e):(s.put d t).ev x=s.ev x:=by
 cases x with
 |tmp k=>exact pA s d t k (fun e he hk=>h e he (by rw[hk]))
 |const v=>rfl
 |global g=>rfl
 |func f=>rfl
theorem fw (s:AS) {d e:Option Tmp} (t u:TV) (h: ∀k,d=some k->e≠some k):(s.put d t).put e u=(s.put e u).put d t:=by
 cases d with
 |none=>rfl
 |some d=>
  cases e with
  |none=>rfl
  |some e=>
   have:d≠e:=fun hde=>h d rfl (by rw[hde])
   simp only[AS.put];rw[List.set_comm _ _ this]
def jR (ops:Array Oper) (o:Oper) (d:Option Tmp):Prop:= ∀e,d=some e->e∉o.looksAt ops
theorem jR.op {o:Oper} {d:Option Tmp} (h:jR ops o d): ∀x∈o.op.operands,∀e,d=some e->x≠ .tmp e:=fun x hx e he hxe=>by
 subst hxe;exact h e he (List.mem_append_left _ (List.mem_filterMap.2 ⟨.tmp e,by simpa using hx,rfl⟩))
theorem jR.gate {o:Oper} {d:Option Tmp} (h:jR ops o d) {g:Nat} {w:Bool} (hg:o.guard=some (g,w)) {k:Tmp} (hk:(ops[g]?).bind (·.dst)=some k): ∀e,d=some e->e≠k:=fun e he hek=>by
 subst hek;refine h e he (List.mem_append_right _ ?_);simp only[hg,hk]
 simp
theorem He {o:Oper} {d:Option Tmp} (h:jR ops o d) (t:TV):gate ops o (s.put d t)=gate ops o s:=by
 unfold gate;cases hg:o.guard with
 |none=>rfl
 |some gw=>
  obtain⟨g,want⟩:=gw;simp only;cases hk:(ops[g]?).bind (·.dst)with
  |none=>rfl
  |some k=>simp only;rw[pA s d t k (h.gate hg hk)]
theorem KZ (k:Nat->Nat->Bool) (H':OH) (x:Operand):AS.ev ⟨s.tmps.map (bv k),H'⟩ x=(s.ev x).map (bv k):=by
 cases x with
 |tmp t=>simp only[AS.ev,aA]
 |const v=>
  simp only[AS.ev,ai]
  congr 1
  unfold nE;split
  ·split
   ·simp only[bv];congr 1;rw[List.map_map];rfl
   rfl
  split<;>rfl
 |global g=>rfl
 |func f=>rfl
theorem EJ {o:Oper} (k:Nat->Nat->Bool) (H':OH):gate ops o ⟨s.tmps.map (bv k),H'⟩=gate ops o s:=by
 unfold gate;cases hg:o.guard with
 |none=>rfl
 |some gw=>
  obtain⟨g,want⟩:=gw;simp only;cases hk:(ops[g]?).bind (·.dst)with
  |none=>rfl
  |some e=>
   simp only[aA];cases s.tmps[e]? with
   |none=>rfl
   |some t=>
    cases t with
    |one x=>
     cases x with
     |p x=>rfl
     |sl a r off len=>simp only[ai,bv,bA];cases k a r<;>rfl
     |ptr a r i j=>simp only[ai,bv,bA];cases k a r<;>rfl
     |junk=>rfl
    |agg cs=>rfl
    |fn f cs=>rfl
    |tup ts=>cases ts<;>rfl
theorem Ba {ev ev':Operand->Option TV} {op:Op} (h: ∀x∈op.operands,ev x=ev' x):fJ P ev H op=fJ P ev' H op:=by
 cases op<;>simp only[Op.operands]at h<;>try (simp only[fJ];done)
 case store t x y=>simp only[fJ,<- h x (by simp),<- h y (by simp)]
 case call c=>
  obtain⟨callee,⟨args⟩,⟨argTypes⟩⟩:=c;simp only[Call.operands]at h;simp only[fJ];split
  ·rename_i x y t t';rw[<- h x (by simp),<- h y (by simp)]
  rfl
theorem re {i:Nat} {d:Option Tmp} {ev ev':Operand->Option TV} {op:Op} (h: ∀x∈op.operands,ev x=ev' x) (hs: ∀x∈op.operands,∀t,ev x=some t->j6 H H' t) (hD:H'=H\/ ∀e G,fJ P e G op=none):
  kw P items ow i d op ev H=kw P items ow i d op ev' H':=by
 unfold kw;rw[s9 h,ta h hs];have hd:fJ P ev H op=fJ P ev' H' op:=by
  rcases hD with rfl|hD
  ·exact Ba h
  rw[hD,hD]
 rw[hd];have ha: ∀d,da P items ow i d ev H op=da P items ow i d ev' H' op:=fun d=>A7 h hs
 simp only[ha]
theorem cP {i:Nat} {o:Oper} {d:Option Tmp} (h:jR ops o d) (t:TV):dj P items ow ops i o (s.put d t)=dj P items ow ops i o s:=by
 unfold dj;rw[He h,jp];split
 ·exact(re (fun x hx=>(Of s d t (h.op x hx)).symm) (fun x _ t _=>zZ t) (.inl rfl)).symm
 ·rfl
 rfl
theorem pS {i:Nat} {o:Oper} (hl:oS s) (hg:yl s.H H') (hD: ∀e G,fJ P e G o.op=none):dj P items ow ops i o ⟨s.tmps,H'⟩=dj P items ow ops i o s:=by
 unfold dj;rw[show gate ops o ⟨s.tmps,H'⟩=gate ops o s from rfl];split
 ·refine(re (fun x _=>?_) (fun x _ t ht=>zY (d9 hl ht) hg) (.inr hD)).symm;cases x<;>rfl
 ·rfl
 rfl
theorem ww {i:Nat} {o:Oper} (hM:xo o.op=true) {out:Kg} (h:dj P items ow ops i o s=some out): ∃t,out= .val t:=by
 unfold dj kw at h;split at h
 ·rw[if_pos hM]at h;obtain⟨t,_,rfl⟩:=Option.map_eq_some_iff.1 h;exact⟨t,rfl⟩
 ·injection h with h;exact⟨_,h.symm⟩
 cases h
theorem uH {i:Nat} {o:Oper} (hM:xo o.op=true) (tm:List TV) (H H':OH):dj P items ow ops i o ⟨tm,H⟩=dj P items ow ops i o ⟨tm,H'⟩:=by
 unfold dj kw;rw[show gate ops o ⟨tm,H⟩=gate ops o ⟨tm,H'⟩from rfl];simp only[hM,if_true];rfl
theorem pT {i:Nat} {o:Oper} (hM:xo o.op=true) (k:Nat->Nat->Bool) (H':OH) {t':TV}:dj P items ow ops i o ⟨s.tmps.map (bv k),H'⟩=some (.val t')↔ ∃t,dj P items ow ops i o s=some (.val t)/\t'=bv k t:=by
 unfold dj kw;rw[EJ];cases gate ops o s with
 |none=>simp
 |some b=>
  cases b with
  |false=>
   simp only[Option.some.injEq,Kg.val.injEq];constructor
   ·rintro rfl;exact⟨_,rfl,rfl⟩
   rintro⟨t,rfl,rfl⟩;rfl
  |true=>
   simp only[hM,if_true];have e:jh P (AS.ev ⟨s.tmps.map (bv k),H'⟩) o.op=(jh P s.ev o.op).map (bv k):=by
    rw[<- EC];exact s9 (fun x _=>KZ k H' x)
   rw[e];cases jh P s.ev o.op with
   |none=>simp
   |some t=>
    simp only[ai,Option.some.injEq,Kg.val.injEq];constructor
    ·rintro rfl;exact⟨t,rfl,rfl⟩
    rintro⟨t,rfl,rfl⟩;rfl
theorem Iy (tm:List TV) (H:OH) (d:Option Tmp) (t:TV):AS.put ⟨tm,H⟩ d t=⟨(AS.put ⟨tm,H⟩ d t).tmps,H⟩:=by cases d<;>rfl
theorem Du (s:AS) (k:Nat->Nat->Bool) (H':OH) (d:Option Tmp) (t:TV):(⟨(s.put d t).tmps.map (bv k),H'⟩:AS)=AS.put ⟨s.tmps.map (bv k),H'⟩ d (bv k t):=by
 cases d with
 |none=>rfl
 |some d=>simp only[AS.put,List.map_set]
def Pa (P:Program) (oi oj:Oper):Prop:=xo oi.op=true\/xo oj.op=true\/((∀e G,fJ P e G oi.op=none)/\ ∀e G,fJ P e G oj.op=none)
theorem oW {d:Option Tmp} {out:Kg} (hw: ∀q,out≠ .wr q) (h:cy d s out=some s1): ∃t H1,s1=AS.put ⟨s.tmps,H1⟩ d t/\yl s.H H1/\((H1=s.H/\out= .val t)\/ ∃e o l,d=some e/\s.H e=[]/\H1=bs s.H e (o::l)/\out= .new t o l):=by
 cases out with
 |val t=>simp only[cy]at h;injection h with h;exact⟨t,s.H,h.symm,fun _ _=>rfl,.inl ⟨rfl,rfl⟩⟩
 |new t o l=>
  simp only[cy]at h;cases d with
  |none=>cases h
  |some e=>
   simp only at h;split at h
   ·rename_i hH;injection h with h
    refine⟨t,bs s.H e (o::l),h.symm,fun a ha=>?_,.inr ⟨e,o,l,rfl,hH,rfl,rfl⟩⟩;exact bo (by rintro rfl;exact ha hH)
   cases h
 |wr q=>exact absurd rfl (hw q)
theorem FJ {i j:Nat} {oi oj:Oper} (hl:oS s) (hij:jR ops oj oi.dst) (hji:jR ops oi oj.dst) (hd: ∀k,oi.dst=some k->oj.dst≠some k) (hsw:Pa P oi oj)
  (h1:cf P items ow ops i oi s=some s1) (h2:cf P items ow ops j oj s1=some s'): ∃s2,cf P items ow ops j oj s=some s2/\cf P items ow ops i oi s2=some s':=by
 rw[bW]at h1 h2;obtain⟨ui,hui,h1⟩:=Option.bind_eq_some_iff.1 h1;obtain⟨uj,huj,h2⟩:=Option.bind_eq_some_iff.1 h2;by_cases hMi:xo oi.op=true
 ·obtain⟨t,rfl⟩:=ww hMi hui;simp only[cy]at h1;injection h1 with h1
  subst h1;rw[cP hij]at huj;cases uj with
  |val u=>
   simp only[cy]at h2;injection h2 with h2
   subst h2;refine⟨s.put oj.dst u,by rw[bW,huj];rfl,?_⟩;rw[bW,cP hji,hui];simp only[Option.bind_some,cy];rw[fw s t u hd]
  |new u o l=>
   simp only[cy,jp]at h2;cases hdj:oj.dst with
   |none=>rw[hdj]at h2;cases h2
   |some e=>
    rw[hdj]at h2;simp only at h2;split at h2
    ·rename_i hH;injection h2 with h2
     subst h2;refine⟨AS.put ⟨s.tmps,bs s.H e (o::l)⟩ (some e) u,by rw[bW,huj];simp only[Option.bind_some,cy,hdj,hH],?_⟩;rw[bW,<- hdj,cP hji,uH hMi s.tmps _ s.H];rw[show(⟨s.tmps,s.H⟩:AS)=s from rfl,hui];simp only[Option.bind_some,cy];rw[fw _ u t (fun k hk hk'=>hd k hk' (by rw[hk]))]
     congr 2
     cases oi.dst<;>rfl
    cases h2
  |wr q=>
   simp only[cy]at h2;injection h2 with h2
   subst h2;refine⟨AS.put ⟨s.tmps.map (bv q.k),q.H⟩ oj.dst q.t,by rw[bW,huj];rfl,?_⟩;rw[bW,cP hji,(pT hMi q.k q.H).2 ⟨t,hui,rfl⟩];simp only[Option.bind_some,cy];rw[Du,fw _ _ _ (fun k hk hk'=>hd k hk' (by rw[hk]))]
 by_cases hMj:xo oj.op=true
 ·obtain⟨u,rfl⟩:=ww hMj huj;simp only[cy]at h2;injection h2 with h2
  subst h2;cases ui with
  |val t=>
   simp only[cy]at h1;injection h1 with h1
   subst h1;rw[cP hij]at huj;refine⟨s.put oj.dst u,by rw[bW,huj];rfl,?_⟩;rw[bW,cP hji,hui];simp only[Option.bind_some,cy];rw[fw s t u hd]
  |new t o l=>
   simp only[cy]at h1;cases hdi:oi.dst with
   |none=>rw[hdi]at h1;cases h1
   |some e=>
    rw[hdi]at h1;simp only at h1;split at h1
    ·rename_i hH;injection h1 with h1
     subst h1;rw[<- hdi,cP hij,uH hMj s.tmps _ s.H,show(⟨s.tmps,s.H⟩:AS)=s from rfl]at huj;refine⟨s.put oj.dst u,by rw[bW,huj];rfl,?_⟩;rw[bW,cP hji,hui];simp only[Option.bind_some,cy,jp,hdi,hH];rw[fw _ t u (fun k hk=>hd k (by rw[hdi];exact hk))]
     congr 2
     cases oj.dst<;>rfl
    cases h1
  |wr q=>
   simp only[cy]at h1;injection h1 with h1
   subst h1;rw[cP hij]at huj;obtain⟨u0,hu0,rfl⟩:=(pT hMj q.k q.H).1 huj;refine⟨s.put oj.dst u0,by rw[bW,hu0];rfl,?_⟩;rw[bW,cP hji,hui];simp only[Option.bind_some,cy];rw[Du,fw _ _ _ hd]
 obtain⟨hDi,hDj⟩:(∀e G,fJ P e G oi.op=none)/\ ∀e G,fJ P e G oj.op=none:=by
  rcases hsw with h|h|h
  ·exact absurd h hMi
  ·exact absurd h hMj
  exact h
 have nowr: ∀{i:Nat} {o:Oper} {s:AS} {u:Kg},(∀e G,fJ P e G o.op=none)->dj P items ow ops i o s=some u-> ∀q,u≠ .wr q:=fun{i o s u} hD hu q hq=>by
  subst hq;unfold dj kw at hu;split at hu
  ·split at hu
   ·obtain⟨_,_,hh⟩:=Option.map_eq_some_iff.1 hu;cases hh
   split at hu
   ·obtain⟨_,_,hh⟩:=Option.map_eq_some_iff.1 hu;cases hh
   rw[hD]at hu;simp only at hu;split at hu
   ·cases hu
   unfold Fo at hu;split at hu<;>cases hu
  ·cases hu
  cases hu
 obtain⟨t,H1,rfl,hg1,hc1⟩:=oW (nowr hDi hui) h1;rw[cP hij,pS hl hg1 hDj]at huj;obtain⟨u,H2,rfl,hg2,hc2⟩:=oW (nowr hDj huj) h2;simp only[jp]at hc2 hg2
 -- what j does to s alone
 have hj: ∃H3,cf P items ow ops j oj s=some (AS.put ⟨s.tmps,H3⟩ oj.dst u)/\yl s.H H3/\((H3=s.H/\H2=H1)\/ ∃e o l,oj.dst=some e/\H3=bs s.H e (o::l)/\H2=bs H1 e (o::l)):=by
  rcases hc2 with⟨e1,e2⟩|⟨e,o,l,e1,e2,e3,e4⟩
  ·exact⟨s.H,by rw[bW,huj,e2];rfl,fun _ _=>rfl,.inl ⟨rfl,e1⟩⟩
  have hse:s.H e=[]:=by
   rcases hc1 with⟨c1,_⟩|⟨e',o',l',c1,c2,c3,_⟩
   ·rw[<- c1];exact e2
   rw[c3,bo (by rintro rfl;exact hd _ c1 e1)]at e2;exact e2
  refine⟨bs s.H e (o::l),by rw[bW,huj,e4];simp only[Option.bind_some,cy,e1,hse],fun a ha=>bo (by rintro rfl;exact ha hse),.inr ⟨e,o,l,e1,rfl,e3⟩⟩
 obtain⟨H3,hj1,hg3,hj2⟩:=hj;refine⟨_,hj1,?_⟩;rw[bW,cP hji,pS hl hg3 hDi,hui];simp only[Option.bind_some];rcases hc1 with⟨c1,c2⟩|⟨e',o',l',c1,c2,c3,c4⟩
 ·subst c2;simp only[cy];rw[fw _ u t (fun k hk hk'=>hd k hk' (by rw[hk]))]
  congr 1
  have:H3=H2:=by
   rcases hj2 with⟨q1,q2⟩|⟨e,o,l,q0,q1,q2⟩
   ·rw[q1,q2,c1]
   rw[q1,q2,c1]
  rw[this,Iy s.tmps H1,c1];cases oi.dst<;>rfl
 subst c4;have hH3:H3 e'=[]:=by
  rcases hj2 with⟨q1,_⟩|⟨e,o,l,q0,q1,_⟩
  ·rw[q1];exact c2
  rw[q1,bo (by rintro rfl;exact hd _ c1 q0)];exact c2
 simp only[cy,c1,jp,hH3];have e1:(⟨(AS.put ⟨s.tmps,H3⟩ oj.dst u).tmps,bs H3 e' (o'::l')⟩:AS)=AS.put ⟨s.tmps,bs H3 e' (o'::l')⟩ oj.dst u:=by cases oj.dst<;>rfl
 rw[e1,fw _ u t (fun k hk hk'=>hd k (by rw[c1];exact hk') (by rw[hk]))]
 congr 1
 have:bs H3 e' (o'::l')=H2:=by
  rcases hj2 with⟨q1,q2⟩|⟨e,o,l,q0,q1,q2⟩
  ·rw[q1,q2,c3]
  rw[q1,q2,c3];funext z;have hne:e'≠e:=by rintro rfl;exact hd _ c1 q0
  by_cases h1:z=e'
  ·subst h1;rw[bF,bo hne,bF]
  rw[bo h1];by_cases h2:z=e
  ·subst h2;rw[bF,bF]
  rw[bo h2,bo h2,bo h1]
 rw[this,Iy s.tmps H1];rfl
end
end
section
section
variable {P:Program} {items:List (dN P)} {ow:List Nat} {ops:Array Oper} {s s1 s':AS} {H H':OH}
theorem BO {t:TV} (h:noRefTV t=true):f4 H t:=by
 have av: ∀x,fh x=true->fC H x:=fun x hx=>by cases x<;>first|trivial|cases hx
 cases t with
 |one x=>exact av x h
 |agg cs=>simp only[noRefTV,ak]at h;exact fun x hx=>av x (h x hx)
 |fn f cs=>simp only[noRefTV,ak]at h;exact fun x hx=>av x (h x hx)
 |tup ts=>simp only[noRefTV,ak]at h;exact fun t ht x hx=>av x (h t ht x hx)
theorem z8 {t:TV} {d:Nat} (h:iM d t) (hd:H d≠[]):f4 H t:=by
 have av: ∀x,dK d x->fC H x:=fun x hx=>by
  cases x with
  |sl a _ _ _=>have hx:a=d:=hx;subst hx;exact hd
  |ptr a _ _ _=>have hx:a=d:=hx;subst hx;exact hd
  |p x=>trivial
  |junk=>trivial
 cases t with
 |one x=>exact av x h
 |agg cs=>exact fun x hx=>av x (h x hx)
 |fn f cs=>exact fun x hx=>av x (h x hx)
 |tup ts=>exact fun t ht x hx=>av x (h t ht x hx)
theorem jr (d:Nat) (x:AV):dK d (dS d x):=by cases x<;>first|rfl|trivial
theorem uk (d:Nat) (t:TV):iM d (fA d t):=by
 cases t with
 |one x=>exact jr d x
 |agg cs=>intro x hx;simp only[an]at hx;obtain⟨y,_,rfl⟩:=hx;exact jr d y
 |fn f cs=>intro x hx;simp only[an]at hx;obtain⟨y,_,rfl⟩:=hx;exact jr d y
 |tup ts=>
  intro t ht x hx;simp only[an]at ht;obtain⟨t',_,rfl⟩:=ht;simp only[an]at hx;obtain⟨y,_,rfl⟩:=hx;exact jr d y
theorem wa {d:Nat} {t:TV} (h:noRefTV t=true):noRefTV (fA d t)=true:=by
 have av: ∀x,fh x=true->fh (dS d x)=true:=fun x hx=>by cases x<;>first|rfl|cases hx
 cases t with
 |one x=>exact av x h
 |agg cs=>simp only[noRefTV,ak]at h;simp only[fA,noRefTV,ak,an];rintro _ ⟨x,hx,rfl⟩;exact av x (h x hx)
 |fn f cs=>simp only[noRefTV,ak]at h;simp only[fA,noRefTV,ak,an];rintro _ ⟨x,hx,rfl⟩;exact av x (h x hx)
 |tup ts=>
  simp only[noRefTV,ak]at h;simp only[fA,noRefTV,ak,an];rintro _ ⟨t,ht,rfl⟩ _ hx;simp only[an]at hx;obtain⟨x,hx,rfl⟩:=hx;exact av x (h t ht x hx)
theorem dw {a:Nat} {o:OObj} (h: ∀e∈o.elems,∀x∈e,isPure x=true):selfO a o:=fun e he x hx=>fb (h e he x hx)
theorem v7 {t:TV} {news:List (List AV)} (h:f5 H t=some news): ∀e∈news,∀x∈e,isPure x=true:=by
 unfold f5 at h;split at h
 ·injection h with h
  subst h;intro e he x hx;simp only[an]at he;obtain⟨e',_,rfl⟩:=he;simp only[an]at hx;obtain⟨x',_,rfl⟩:=hx;rfl
 ·injection h with h;subst h;intro e he;simp at he
 ·split at h
  ·split at h
   ·rename_i hp;injection h with h
    subst h;simp only[ak]at hp;exact fun e he x hx=>hp e (List.mem_of_mem_take (List.mem_of_mem_drop he)) x hx
   cases h
  cases h
 cases h
theorem zo {ev:Operand->Option TV} {n:Nat}: ∀(parts:List (Nat×Operand)) (i:Nat) (l:List (List AV)),oB ev n i parts=some l-> ∀e∈l,∀x∈e,isPure x=true
 |[],i,l,h=>by simp only[oB]at h;injection h with h;subst h;intro e he;simp at he
 |(k,x)::rest,i,l,h=>by
  simp only[oB]at h;split at h
  ·rename_i cs l' hcs hl';split at h
   ·rename_i hc;injection h with h
    subst h;intro e he y hy;rcases List.mem_cons.1 he with rfl|he
    ·have:=hc.2.2;simp only[ak]at this;exact this y hy
    exact zo rest (i+1) l' hl' e he y hy
   cases h
  cases h
theorem A9 {i d:Nat} {ev:Operand->Option TV} {op:Op} {t:TV} {F:List OObj} (h:da P items ow i d ev H op=some (t,F)):iM d t/\(F=[]->noRefTV t=true)/\ ∀o∈F,selfO d o:=by
 cases op<;>simp only[da]at h<;>try cases h
 case box e x=>
  split at h
  ·split at h
   ·rename_i hc;injection h with h
    injection h with h1 h2
    subst h1 h2;refine⟨rfl,fun h=>by simp at h,fun o ho=>?_⟩;simp at ho;subst ho;have:=hc.1;simp only[ak]at this;exact dw (fun e he x hx=>by simp at he;subst he;exact this x hx)
   cases h
  cases h
 case alloc e=>
  split at h
  ·split at h
   ·injection h with h
    injection h with h1 h2
    subst h1 h2;refine⟨rfl,fun h=>by simp at h,fun o ho=>?_⟩;simp at ho;subst ho;exact dw (fun e he x hx=>by simp at he;subst he;simp at hx;obtain⟨y,_,rfl⟩:=hx;rfl)
   cases h
  cases h
 case makeSlice ty l c=>
  split at h
  ·split at h
   ·split at h
    ·injection h with h
     injection h with h1 h2
     subst h1 h2;refine⟨rfl,fun h=>by simp at h,fun o ho=>?_⟩;simp at ho;subst ho;exact dw (fun e he x hx=>by simp[List.mem_replicate]at he;rw[he.2]at hx;simp at hx;obtain⟨y,_,rfl⟩:=hx;rfl)
    cases h
   cases h
  cases h
 case buildSlice ty n parts=>
  split at h
  ·split at h
   ·split at h
    ·rename_i l hl;split at h
     ·split at h
      ·injection h with h
       injection h with h1 h2
       subst h1 h2;refine⟨rfl,fun h=>by simp at h,fun o ho=>?_⟩;simp at ho;subst ho;exact dw (zo _ _ _ hl)
      injection h with h
      injection h with h1 h2
      subst h1 h2;exact⟨trivial,fun _=>rfl,fun o ho=>by simp at ho⟩
     cases h
    cases h
   cases h
  cases h
 case call c=>
  split at h
  ·split at h
   ·rename_i it ts hit hts;split at h
    ·rename_i hc;injection h with h
     injection h with h1 h2
     subst h1 h2;refine⟨uk _ _,fun hF=>?_,fun o ho=>?_⟩
     ·have h4:=hc.2.2.2;simp only[List.map_eq_nil_iff]at hF;rw[hF]at h4;exact wa (by simpa using h4)
     simp only[an]at ho;obtain⟨o',_,rfl⟩:=ho;intro e he x hx;simp only[renO,an]at he;obtain⟨e',_,rfl⟩:=he;simp only[an]at hx;obtain⟨y,_,rfl⟩:=hx;exact jr d y
    cases h
   cases h
  ·split at h
   ·rename_i f extra it ts hcl hit hts;split at h
    ·rename_i hc;injection h with h
     injection h with h1 h2
     subst h1 h2;refine⟨uk _ _,fun hF=>?_,fun o ho=>?_⟩
     ·have h4:=hc.2.2.2;simp only[List.map_eq_nil_iff]at hF;rw[hF]at h4;exact wa (by simpa using h4)
     simp only[an]at ho;obtain⟨o',_,rfl⟩:=ho;intro e he x hx;simp only[renO,an]at he;obtain⟨e',_,rfl⟩:=he;simp only[an]at hx;obtain⟨y,_,rfl⟩:=hx;exact jr d y
    cases h
   cases h
  ·split at h
   ·split at h
    ·rename_i news e hs hx hsl;split at h
     ·split at h
      ·injection h with h
       injection h with h1 h2
       subst h1 h2;refine⟨rfl,fun h=>by simp at h,fun o ho=>?_⟩;simp at ho;subst ho;obtain⟨tx,_,hn⟩:=Option.bind_eq_some_iff.1 hx;exact dw (v7 hn)
      cases h
     cases h
    cases h
   cases h
  cases h
theorem jG {k:Nat->Nat->Bool} {x:AV} (h: ∀a r,H a≠[]->k a r=false->H' a≠[]) (hx:fC H x):fC H' (bA k x):=by
 cases x with
 |sl a r off len=>
  simp only[bA];cases hk:k a r with
  |true=>trivial
  |false=>exact h a r hx hk
 |ptr a r i j=>
  simp only[bA];cases hk:k a r with
  |true=>trivial
  |false=>exact h a r hx hk
 |p x=>trivial
 |junk=>trivial
theorem ra {k:Nat->Nat->Bool} {t:TV} (h: ∀a r,H a≠[]->k a r=false->H' a≠[]) (hx:f4 H t):f4 H' (bv k t):=by
 cases t with
 |one x=>exact jG h hx
 |agg cs=>intro y hy;simp only[an]at hy;obtain⟨z,hz,rfl⟩:=hy;exact jG h (hx z hz)
 |fn f cs=>intro y hy;simp only[an]at hy;obtain⟨z,hz,rfl⟩:=hy;exact jG h (hx z hz)
 |tup ts=>
  intro t ht y hy;simp only[an]at ht;obtain⟨t',ht',rfl⟩:=ht;simp only[an]at hy;obtain⟨z,hz,rfl⟩:=hy;exact jG h (hx t' ht' z hz)
theorem uB {a r:Nat} {l:List OObj} {o o':OObj} (hl: ∀o∈l,selfO a o) (ho':selfO a o'): ∀o∈l.set r o',selfO a o:=fun x hx=>by
 rcases List.mem_or_eq_of_mem_set hx with hx|rfl
 ·exact hl x hx
 exact ho'
theorem ud {a i j:Nat} {o:OObj} {e cs:List AV} (ho:selfO a o) (he:o.elems[i]?=some e) (hc: ∀x∈cs,dK a x):selfO a {o with elems:=o.elems.set i (cW e j cs)}:=fun y hy x hx=>by
 rcases List.mem_or_eq_of_mem_set hy with hy|rfl
 ·exact ho y hy x hx
 unfold cW at hx;simp only[List.mem_append]at hx;rcases hx with(hx|hx)|hx
 ·exact ho e (ax he) x (List.mem_of_mem_take hx)
 ·exact hc x hx
 exact ho e (ax he) x (List.mem_of_mem_drop hx)
theorem EB (hl:oS s) {op:Op} {q:AA} (h:fJ P s.ev s.H op=some q):(∀a r,s.H a≠[]->q.k a r=false->q.H a≠[])/\(∀a,∀o∈q.H a,selfO a o)/\f4 q.H q.t:=by
 have hundef: ∀H,f4 H TV.undef:=fun H t ht=>by simp at ht
 have upd1: ∀{a r:Nat} {o:OObj} {F:List OObj},(s.H a)[r]?=some o->F.length>=(s.H a).length->(∀o∈F,selfO a o)->(∀(b r':Nat),s.H b≠[]->bs s.H a F b≠[])/\ ∀b,∀o∈bs s.H a F b,selfO b o:=fun{a r o F} ho hlen hF=>by
  have hpos:0<(s.H a).length:=by have:=(List.getElem?_eq_some_iff.1 ho).1;omega
  refine⟨fun b _ hb=>?_,fun b o' ho'=>?_⟩
  ·by_cases hba:b=a
   ·subst hba;rw[bF];intro h0;rw[h0]at hlen;simp at hlen;simp[hlen]at hpos
   rw[bo hba];exact hb
  by_cases hba:b=a
  ·subst hba;rw[bF]at ho';exact hF o' ho'
  rw[bo hba]at ho';exact hl.2 b o' ho'
 cases op<;>simp only[fJ]at h<;>try cases h
 case store t ad x=>
  split at h
  ·rename_i a r i j n had hn;split at h
   ·rename_i o ho;have hso:=hl.2 a o (ax ho);split at h
    ·rename_i e he;split at h
     ·rename_i a' r' off len hx;split at h
      ·rename_i haa;subst haa;split at h
       ·injection h with h
        subst h;obtain⟨g1,g2⟩:=upd1 ho (F:=(s.H a').set r {o with elems:=o.elems.set i (cW e j [.sl a' r' off len])}) (by simp) (uB (o:=o) (hl.2 a') (ud hso he (fun y hy=>by simp at hy;subst hy;rfl)));exact⟨fun b r hb _=>g1 b r hb,g2,hundef _⟩
       cases h
      rename_i haa;split at h
      ·rename_i ob hH;split at h
       ·rename_i hc;injection h with h
        subst h;have hp:=hc.2.2.2.2.2.2;simp only[ak]at hp;obtain⟨g1,g2⟩:=upd1 ho (F:=(s.H a).set r {o with elems:=o.elems.set i (cW e j [.sl a (s.H a).length 0 len])}++[ob]) (by simp) (fun y hy=>by
         rcases List.mem_append.1 hy with hy|hy
         ·exact uB (o:=o) (hl.2 a) (ud hso he (fun y hy=>by simp at hy;subst hy;rfl)) y hy
         simp at hy;subst hy;exact dw hp)
        refine⟨fun b r hb hk=>?_,fun b o' ho'=>?_,hundef _⟩
        ·have hba:b≠a':=by simpa using hk
         show bs _ a' [] b≠[];rw[bo hba];exact g1 b r hb
        by_cases hba:b=a'
        ·subst hba;simp only[bF]at ho';simp at ho'
        simp only[bo hba]at ho';exact g2 b o' ho'
       cases h
      cases h
     ·rename_i v hv hx;split at h
      ·rename_i cs hcs;split at h
       ·rename_i hc;injection h with h
        subst h;have hp:=hc.2.2;simp only[ak]at hp;obtain⟨g1,g2⟩:=upd1 ho (F:=(s.H a).set r {o with elems:=o.elems.set i (cW e j cs)}) (by simp) (uB (o:=o) (hl.2 a) (ud hso he (fun y hy=>fb (hp y hy))));exact⟨fun b r hb _=>g1 b r hb,g2,hundef _⟩
       cases h
      cases h
     cases h
    cases h
   cases h
  cases h
 case call c=>
  split at h
  ·split at h
   ·rename_i a r off len news e hs hx hsl;split at h
    ·rename_i o z sz by_ ho hz hszo hby;split at h
     ·injection h with h
      subst h;obtain⟨tx,_,hn⟩:=Option.bind_eq_some_iff.1 hx;have hso:=hl.2 a o (ax ho);obtain⟨g1,g2⟩:=upd1 ho (F:=((s.H a).map (gF fun x y=>x==a&&y==r)).set r {o with elems:=o.elems++news}) (by simp) (fun y hy=>by
       rcases List.mem_or_eq_of_mem_set hy with hy|rfl
       ·simp only[an]at hy;obtain⟨o2,ho2,rfl⟩:=hy;intro e he x hx;simp only[gF,an]at he;obtain⟨e',he',rfl⟩:=he;simp only[an]at hx;obtain⟨x',hx',rfl⟩:=hx;have:=hl.2 a o2 ho2 e' he' x' hx';cases x' with
        |sl b _ _ _=>simp only[bA];split;trivial;exact this
        |ptr b _ _ _=>simp only[bA];split;trivial;exact this
        |p x=>trivial
        |junk=>trivial
       intro e he x hx;rcases List.mem_append.1 he with he|he
       ·exact hso e he x hx
       exact fb (v7 hn e he x hx))
      refine⟨fun b r hb _=>g1 b r hb,g2,?_⟩;exact g1 a r (by intro h0;rw[h0]at ho;simp at ho)
     cases h
    cases h
   cases h
  cases h
theorem wS {i:Nat} {o:Oper} (hl:oS s) (h:cf P items ow ops i o s=some s1):oS s1:=by
 rw[bW]at h;obtain⟨out,hout,h⟩:=Option.bind_eq_some_iff.1 h;unfold dj at hout;have hundef:f4 s.H TV.undef:=fun t ht=>by simp at ht
 split at hout
 ·unfold kw at hout;split at hout
  ·obtain⟨t,ht,rfl⟩:=Option.map_eq_some_iff.1 hout;simp only[cy]at h;injection h with h;subst h
   exact kC hl (ED hl ht)
  split at hout
  ·obtain⟨t,ht,rfl⟩:=Option.map_eq_some_iff.1 hout;simp only[cy]at h;injection h with h;subst h
   exact kC hl (EE hl ht)
  split at hout
  ·rename_i q hq;injection hout with hout
   subst hout;simp only[cy]at h;injection h with h;subst h
   obtain⟨g1,g2,g3⟩:=EB hl hq;refine kC ⟨fun t x hx=>?_,g2⟩ g3;simp only[aA]at hx;obtain⟨y,hy,rfl⟩:=Option.map_eq_some_iff.1 hx;exact ra g1 (hl.1 t y hy)
  split at hout
  ·cases hout
  rename_i d hd;cases hA:da P items ow i d s.ev s.H o.op with
  |none=>rw[hA]at hout;cases hout
  |some tF=>
   obtain⟨t,F⟩:=tF;rw[hA]at hout;obtain⟨f1,f2,f3⟩:=A9 hA;cases F with
   |nil=>
    simp only[Fo]at hout;injection hout with hout
    subst hout;simp only[cy]at h;injection h with h;subst h
    exact kC hl (BO (f2 rfl))
   |cons o' l=>
    simp only[Fo]at hout;injection hout with hout
    subst hout;simp only[cy,hd]at h;split at h
    ·rename_i hH;injection h with h
     subst h;refine kC ⟨fun k x hx=>?_,fun b o2 ho2=>?_⟩ (z8 f1 (by simp[bF]))
     ·have:=hl.1 k x hx;have hg: ∀a,s.H a≠[]->bs s.H d (o'::l) a≠[]:=fun a ha=>by rw[bo (by rintro rfl;exact ha hH)];exact ha
      have:=ra (H':=bs s.H d (o'::l)) (k:=fun _ _=>false) (fun a _ ha _=>hg a ha) this;rwa[lk]at this
     by_cases hb:b=d
     ·subst hb;simp only[bF]at ho2;exact f3 o2 ho2
     simp only[bo hb]at ho2;exact hl.2 b o2 ho2
    cases h
 ·injection hout with hout
  subst hout;simp only[cy]at h;injection h with h;subst h
  exact kC hl hundef
 cases hout
end
end
end Go.Proofs.YtiollbhgpiiodaaGreatDoor
