/-
  Part 7 of a proof (walks and plain facts).
-/
import Derived.Test.YtiollbhgpiiodaaGreatDoorQ05
set_option linter.all false
set_option maxRecDepth 100000
set_option maxHeartbeats 64000000
open Option renaming map_some → ag
open List renaming all_eq_true → ai
open List renaming mem_map → ak
open List renaming mem_of_getElem? → aw
open List renaming getElem?_map → az
namespace Go.Proofs.YtiollbhgpiiodaaGreatDoor
open Go.RowKit
section
section
variable {P:Program} {s s':AS} {H H':OH}
def AY (H H':OH):Prop:= ∀a,H a≠[]->H' a=H a
def sV (H H':OH):AV->Prop
 | .sl a _ _ _=>H' a=H a
 | .ptr a _ _ _=>H' a=H a
 |_=>True
def lA (H H':OH):TV->Prop
 | .one x=>sV H H' x
 | .agg cs=> ∀x∈cs,sV H H' x
 | .fn _ cs=> ∀x∈cs,sV H H' x
 | .tup ts=> ∀t∈ts,∀x∈t.2,sV H H' x
theorem kY {x:AV} (h:gI H x) (g:AY H H'):sV H H' x:=by
 cases x with
 |sl a _ _ _=>exact g a h
 |ptr a _ _ _=>exact g a h
 |p x=>trivial
 |junk=>trivial
theorem CU {t:TV} (h:gY H t) (g:AY H H'):lA H H' t:=by
 cases t with
 |one x=>exact kY h g
 |agg cs=>exact fun x hx=>kY (h x hx) g
 |fn f cs=>exact fun x hx=>kY (h x hx) g
 |tup ts=>exact fun t ht x hx=>kY (h t ht x hx) g
theorem kZ (x:AV):sV H H x:=by cases x<;>first|rfl|trivial
theorem CV (t:TV):lA H H t:=by
 cases t with
 |one x=>exact kZ x
 |agg cs=>exact fun x _=>kZ x
 |fn f cs=>exact fun x _=>kZ x
 |tup ts=>exact fun t _ x _=>kZ x
theorem vr {ev ev':Operand->Option TV} {op:Op} (h: ∀x∈op.operands,ev x=ev' x):jc P ev op=jc P ev' op:=by
 cases op<;>simp only[Op.operands]at h<;>simp only[jc]
 case call c=>
  have e:c.args.toList.map ev=c.args.toList.map ev':=List.map_congr_left fun x hx=>h x (by simp only[Call.operands,Array.mem_append];exact .inr (Array.mem_toList_iff.1 hx))
  unfold UU;rw[e]
 case move x=>exact h x (by simp)
 case assign x=>exact h x (by simp)
 case pick c a b=>rw[h c (by simp),h a (by simp),h b (by simp)]
 case binOp op t x y t'=>rw[h x (by simp),h y (by simp)]
 case unOp op t x=>rw[h x (by simp)]
 case convert a b x=>rw[h x (by simp)]
 case extract x k=>rw[h x (by simp)]
theorem BE (k:Nat->Nat->Bool): ∀(xs ys:List AV),Em (xs.map (bs k)) (ys.map (bs k))=Em xs ys
 |[],[]=>rfl
 |[],_::_=>rfl
 |x::xs,[]=>by
  simp only[List.map_cons,List.map_nil];cases x with
  |p x=>cases x with
   |raw v=>cases v<;>rfl
   |sl _=>rfl
   |ptr _=>rfl
  |sl a r off len=>simp only[bs];split<;>rfl
  |ptr a r i j=>simp only[bs];split<;>rfl
  |junk=>rfl
 |x::xs,y::ys=>by
  have ih:=BE k xs ys;simp only[List.map_cons];cases x with
  |p x=>cases x with
   |raw v=>
    cases v
    case int k1 a=>
     cases y with
     |p y=>cases y with
      |raw u=>cases u<;>first|rfl|simp only[bs,Em,ih]
      |sl _=>rfl
      |ptr _=>rfl
     |sl a r off len=>simp only[bs];split<;>rfl
     |ptr a r i j=>simp only[bs];split<;>rfl
     |junk=>rfl
    all_goals rfl
   |sl _=>rfl
   |ptr _=>rfl
  |sl a r off len=>simp only[bs];split<;>rfl
  |ptr a r i j=>simp only[bs];split<;>rfl
  |junk=>rfl
theorem Jk (k:Nat->Nat->Bool) (t:TV):vY (bo k t)=vY t:=by
 cases t with
 |one x=>
  cases x with
  |p x=>rfl
  |sl a r off len=>simp only[bo,bs];split<;>rfl
  |ptr a r i j=>simp only[bo,bs];split<;>rfl
  |junk=>rfl
 |agg cs=>rfl
 |fn f cs=>rfl
 |tup ts=>rfl
theorem vZ (k:Nat->Nat->Bool) (t:Option TV):(t.map (bo k)).bind vY=t.bind vY:=by
 cases t with
 |none=>rfl
 |some t=>exact Jk k t
theorem Cl (k:Nat->Nat->Bool) (f:Int->Int->Int) (l:List (Option TV)):RA f (l.map (Option.map (bo k)))=(RA f l).map (bo k):=by
 have key: ∀(t:TV) v,bo k t= .one (.p (.raw v))↔t= .one (.p (.raw v)):=fun t v=>by
  cases t with
  |one x=>
   cases x with
   |p x=>exact Iff.rfl
   |sl a r off len=>simp only[bo,bs];split<;>simp
   |ptr a r i j=>simp only[bo,bs];split<;>simp
   |junk=>simp[bo,bs]
  |agg cs=>simp[bo]
  |fn f cs=>simp[bo]
  |tup ts=>simp[bo]
 have inv: ∀(o:Option TV) v,o.map (bo k)=some (.one (.p (.raw v)))->o=some (.one (.p (.raw v))):=fun o v h=>by
  cases o with
  |none=>cases h
  |some t=>injection h with h;rw[(key t v).1 h]
 cases h:RA f l with
 |some t=>
  obtain⟨c,c',a,b,rfl,rfl⟩:=lN h;rfl
 |none=>
  cases h2:RA f (l.map (Option.map (bo k)))with
  |none=>rfl
  |some t=>
   obtain⟨c,c',a,b,e,_⟩:=lN h2;obtain⟨x,y,rfl,e1,e2⟩:=zV e;rw[inv _ _ e1,inv _ _ e2]at h;cases h
theorem IE (k:Nat->Nat->Bool) {ev:Operand->Option TV} {op:Op}:jc P (fun x=>(ev x).map (bo k)) op=(jc P ev op).map (bo k):=by
 have key: ∀(t:TV) v,bo k t= .one (.p (.raw v))↔t= .one (.p (.raw v)):=fun t v=>by
  cases t with
  |one x=>
   cases x with
   |p x=>exact Iff.rfl
   |sl a r off len=>simp only[bo,bs];split<;>simp
   |ptr a r i j=>simp only[bo,bs];split<;>simp
   |junk=>simp[bo,bs]
  |agg cs=>simp[bo]
  |fn f cs=>simp[bo]
  |tup ts=>simp[bo]
 cases op<;>simp only[jc]<;>try rfl
 case call c=>
  unfold UU;have e:c.args.toList.map (fun x=>(ev x).map (bo k))=(c.args.toList.map ev).map (Option.map (bo k)):=by rw[List.map_map];rfl
  rw[e];split
  ·exact Cl k _ _
  ·exact Cl k _ _
  rfl
 case pick c a b=>
  cases hc:ev c with
  |none=>rfl
  |some t=>
   simp only[ag];by_cases h1:t= .one (.p (.raw (.bool true)))
   ·subst h1;rfl
   by_cases h2:t= .one (.p (.raw (.bool false)))
   ·subst h2;rfl
   have e1: ∀b,bo k t≠ .one (.p (.raw (.bool b))):=fun b he=>by
    have:=(key t _).1 he;cases b
    ·exact h2 this
    exact h1 this
   split
   ·rename_i he;injection he with he;exact absurd he (e1 _)
   ·rename_i he;injection he with he;exact absurd he (e1 _)
   split
   ·rename_i he;injection he with he;exact absurd he h1
   ·rename_i he;injection he with he;exact absurd he h2
   rfl
 case binOp op t x y t'=>
  by_cases hnil:Ex y=true
  ·rw[if_pos hnil,if_pos hnil];unfold ym;rw[vZ,vZ];split<;>rfl
  rw[if_neg hnil,if_neg hnil];cases hx:ev x with
  |none=>rfl
  |some tx=>
   cases hy:ev y with
   |none=>
    simp only[ag,Option.map_none];split
    ·rename_i he;cases he
    ·rename_i he;cases he
    rfl
   |some ty=>
    simp only[ag];by_cases h1: ∃a b,tx= .one (.p (.raw a))/\ty= .one (.p (.raw b))
    ·obtain⟨a,b,rfl,rfl⟩:=h1;simp only[bo,bs];cases xY (uY P t) op a b<;>rfl
    by_cases h2: ∃xs ys,tx= .agg xs/\ty= .agg ys
    ·obtain⟨xs,ys,rfl,rfl⟩:=h2;simp only[bo,xX,List.length_map,BE];split
     ·split<;>rfl
     ·split<;>rfl
     rfl
    have keya: ∀(t:TV) cs,bo k t= .agg cs-> ∃cs',t= .agg cs':=fun t cs ht=>by
     cases t<;>simp[bo]at ht;exact⟨_,rfl⟩
    split
    ·rename_i a b ha hb;injection ha with ha
     injection hb with hb
     exact absurd ⟨a,b,(key _ _).1 ha,(key _ _).1 hb⟩ h1
    ·rename_i a b ha hb;injection ha with ha
     injection hb with hb
     obtain⟨c1,e1⟩:=keya _ _ ha;obtain⟨c2,e2⟩:=keya _ _ hb;exact absurd ⟨c1,c2,e1,e2⟩ h2
    split
    ·rename_i a b ha hb;injection ha with ha
     injection hb with hb
     exact absurd ⟨a,b,ha,hb⟩ h1
    ·rename_i a b ha hb;injection ha with ha
     injection hb with hb
     exact absurd ⟨a,b,ha,hb⟩ h2
    rfl
 case unOp op t x=>
  cases hx:ev x with
  |none=>rfl
  |some tx=>
   simp only[ag];by_cases h1: ∃a,tx= .one (.p (.raw a))
   ·obtain⟨a,rfl⟩:=h1;simp only[bo,bs];cases II op a<;>rfl
   split
   ·rename_i a ha;injection ha with ha;exact absurd ⟨a,(key _ _).1 ha⟩ h1
   split
   ·rename_i a ha;injection ha with ha;exact absurd ⟨a,ha⟩ h1
   rfl
 case convert a b x=>
  cases hx:ev x with
  |none=>rfl
  |some tx=>
   simp only[ag];by_cases h1: ∃q n,tx= .one (.p (.raw (.int q n)))
   ·obtain⟨q,n,rfl⟩:=h1;simp only[bo,bs];cases P.underlying a with
    |none=>rfl
    |some u=>cases xk P b<;>rfl
   split
   ·rename_i q n _ _ ha _ _;injection ha with ha;exact absurd ⟨_,_,(key _ _).1 ha⟩ h1
   split
   ·rename_i q n _ _ ha _ _;injection ha with ha;exact absurd ⟨_,_,ha⟩ h1
   rfl
 case extract x i=>
  cases hx:ev x with
  |none=>rfl
  |some tx=>
   cases tx with
   |one y=>rfl
   |agg cs=>rfl
   |fn f cs=>rfl
   |tup ts=>
    simp only[ag,bo,az];cases hi:ts[i]? with
    |none=>rfl
    |some t=>
     obtain⟨b,cs⟩:=t;cases b with
     |true=>rfl
     |false=>
      cases cs with
      |nil=>rfl
      |cons y l=>cases l<;>rfl
theorem jb {ev ev':Operand->Option TV} {x:Option Operand} {d:Nat} (h: ∀y,x=some y->ev y=ev' y):eJ ev x d=eJ ev' x d:=by
 cases x with
 |none=>rfl
 |some y=>simp only[eJ,h y rfl]
theorem vz {pl:List (Nat×Nat)} {ev ev':Operand->Option TV}: ∀(parts:List (Nat×Operand)) (cs:List AV),(∀p∈parts,ev p.2=ev' p.2)->jd pl ev cs parts=jd pl ev' cs parts
 |[],cs,_=>rfl
 |(f,x)::rest,cs,h=>by
  simp only[jd,h (f,x) (by simp)];split
  ·split
   ·exact vz rest _ (fun p hp=>h p (by simp[hp]))
   rfl
  rfl
theorem x9 {n:Nat} {ev ev':Operand->Option TV}: ∀(parts:List (Nat×Operand)) (i:Nat),(∀p∈parts,ev p.2=ev' p.2)->pS ev n i parts=pS ev' n i parts
 |[],i,_=>rfl
 |(f,x)::rest,i,h=>by
  simp only[pS,h (f,x) (by simp),x9 rest (i+1) (fun p hp=>h p (by simp[hp]))]
theorem ny {ev ev':Operand->Option TV}: ∀(l:List Operand),(∀x∈l,ev x=ev' x)->f6 ev l=f6 ev' l
 |[],_=>rfl
 |x::l,h=>by simp only[f6,h x (by simp),ny l (fun y hy=>h y (by simp[hy]))]
theorem vt {ev ev':Operand->Option TV} {op:Op} (h: ∀x∈op.operands,ev x=ev' x) (hl: ∀x∈op.operands,∀t,ev x=some t->lA H H' t):cj P ev H op=cj P ev' H' op:=by
 cases op<;>simp only[Op.operands]at h hl<;>try (simp only[cj];done)
 case load t x=>
  simp only[cj,<- h x (by simp)];cases hx:ev x with
  |none=>rfl
  |some tx=>
   have:=hl x (by simp) tx hx;cases tx with
   |one y=>
    cases y with
    |ptr a r i j=>simp only[show H' a=H a from this]
    |p y=>cases y<;>rfl
    |sl a r off len=>rfl
    |junk=>rfl
   |agg cs=>rfl
   |fn f cs=>rfl
   |tup ts=>rfl
 case indexAddr t x ix=>
  simp only[cj,<- h x (by simp),<- h ix (by simp)];cases sliceO P t with
  |none=>
   cases hx:ev x with
   |none=>rfl
   |some tx=>
    cases tx with
    |one y=>
     cases y with
     |p y=>
      cases y with
      |raw v=>
       cases v with
       |pointer a=>
        cases a with
        |none=>rfl
        |some a=>
         obtain⟨b,off,sp⟩:=a;cases sp<;>rfl
       |_=>rfl
      |sl xs=>rfl
      |ptr cs=>rfl
     |sl a r off len=>rfl
     |ptr a r i j=>rfl
     |junk=>rfl
    |agg cs=>rfl
    |fn f cs=>rfl
    |tup ts=>rfl
  |some e=>
   cases hx:ev x with
   |none=>rfl
   |some tx=>
    have:=hl x (by simp) tx hx;cases tx with
    |one y=>
     cases y with
     |sl a r off len=>simp only[show H' a=H a from this]
     |p y=>cases y<;>rfl
     |ptr a r i j=>rfl
     |junk=>rfl
    |agg cs=>rfl
    |fn f cs=>rfl
    |tup ts=>rfl
 case index t x ix=>simp only[cj,<- h x (by simp),<- h ix (by simp)]
 case fieldAddr t x f=>simp only[cj,<- h x (by simp)]
 case field t x f=>simp only[cj,<- h x (by simp)]
 case slice t x lo hi mx=>
  cases mx with
  |some m=>
   cases lo with
   |none=>simp only[cj]
   |some lo=>
   cases hi with
   |none=>simp only[cj]
   |some hi=>
   simp only[cj,<- h x (by simp)];have hlo:eJ ev (some lo) 0=eJ ev' (some lo) 0:=jb fun y hy=>h y (by injection hy with hy;subst hy;simp)
   have hhi:eJ ev (some hi) 0=eJ ev' (some hi) 0:=jb fun y hy=>h y (by injection hy with hy;subst hy;simp)
   have hmx:eJ ev (some m) 0=eJ ev' (some m) 0:=jb fun y hy=>h y (by injection hy with hy;subst hy;simp)
   simp only[hlo,hhi,hmx];cases sliceO P t with
   |none=>rfl
   |some e=>
    cases hx:ev x with
    |none=>rfl
    |some tx=>
     have:=hl x (by simp) tx hx;cases tx with
     |one y=>
      cases y with
      |sl a r off len=>simp only[show H' a=H a from this]
      |p y=>cases y<;>rfl
      |ptr a r i j=>rfl
      |junk=>rfl
     |agg cs=>rfl
     |fn f cs=>rfl
     |tup ts=>rfl
  |none=>
   simp only[cj,<- h x (by simp)];have hlo: ∀d,eJ ev lo d=eJ ev' lo d:=fun d=>jb fun y hy=>h y (by subst hy;simp)
   have hhi: ∀d,eJ ev hi d=eJ ev' hi d:=fun d=>jb fun y hy=>h y (by subst hy;cases lo<;>simp)
   simp only[hlo,hhi];cases sliceO P t with
   |none=>rfl
   |some e=>
    cases hx:ev x with
    |none=>rfl
    |some tx=>
     have:=hl x (by simp) tx hx;cases tx with
     |one y=>
      cases y with
      |sl a r off len=>simp only[show H' a=H a from this]
      |p y=>cases y<;>rfl
      |ptr a r i j=>rfl
      |junk=>rfl
     |agg cs=>rfl
     |fn f cs=>rfl
     |tup ts=>rfl
 case build t parts=>
  simp only[cj];have: ∀pl cs,jd pl ev cs parts.toList=jd pl ev' cs parts.toList:=fun pl cs=>vz _ _ (fun p hp=>h p.2 (by simp only[List.mem_toArray,ak];exact⟨p,hp,rfl⟩))
  simp only[this]
 case nilCheck x=>simp only[cj,<- h x (by simp)]
 case makeFunc fn first captured=>
  cases fn with
  |func f=>
   simp only[cj];rw[ny captured.toList (fun x hx=>h x (by simp at hx⊢;exact .inr hx))]
  |_=>simp only[cj]
 case call c=>
  obtain⟨callee,⟨args⟩,⟨argTypes⟩⟩:=c;cases callee with
  |builtin b=>
   cases b<;>try (simp only[cj];done)
   simp only[cj];simp only[Call.operands]at h;split
   ·rename_i x t;rw[h x (by simp)]
   rfl
  |value f=>simp only[cj]
  |invoke r m=>simp only[cj]
 all_goals rfl
theorem Tk (x:PV):ia H' (.one (.p x))=ia H (.one (.p x)):=by
 have key: ∀G:OH,ia G (.one (.p x))= .one (.p x)\/(x= .raw (.slice none 0 0)/\ia G (.one (.p x))= .one (.p (.sl []))):=fun G=>by
  unfold ia;split
  ·rename_i heq;cases heq
  ·rename_i heq;injection heq with heq;injection heq with heq;exact .inr ⟨heq,rfl⟩
  exact .inl rfl
 by_cases hx:x= .raw (.slice none 0 0)
 ·subst hx;rfl
 rcases key H with h1|⟨h1,_⟩
 ·rcases key H' with h2|⟨h2,_⟩
  ·rw[h1,h2]
  exact absurd h2 hx
 exact absurd h1 hx
theorem Tj (x:PV):newsOf H' (.one (.p x))=newsOf H (.one (.p x)):=by
 unfold newsOf;split
 ·rename_i heq;injection heq with heq;injection heq with heq;subst heq;rfl
 ·rename_i heq;injection heq with heq;injection heq with heq;subst heq;rfl
 ·rename_i heq;cases heq
 rfl
theorem jT {t:TV} (hl:lA H H' t):ia H' t=ia H t/\ ∀b,eE b H' t=eE b H t:=by
 cases t with
 |one x=>
  cases x with
  |sl a r off len=>exact⟨by simp only[ia,show H' a=H a from hl],fun b=>by simp only[eE,show H' a=H a from hl]⟩
  |p x=>exact⟨Tk x,fun b=>rfl⟩
  |ptr a r i j=>exact⟨rfl,fun b=>rfl⟩
  |junk=>exact⟨rfl,fun b=>rfl⟩
 |agg cs=>exact⟨rfl,fun b=>rfl⟩
 |fn f cs=>exact⟨rfl,fun b=>rfl⟩
 |tup ts=>exact⟨rfl,fun b=>rfl⟩
theorem Ji {t:TV} (hl:lA H H' t):newsOf H' t=newsOf H t:=by
 cases t with
 |one x=>
  cases x with
  |sl a r off len=>simp only[newsOf,show H' a=H a from hl]
  |p x=>exact Tj x
  |ptr a r i j=>rfl
  |junk=>rfl
 |agg cs=>rfl
 |fn f cs=>rfl
 |tup ts=>rfl
theorem Ea {items:List (dD P)} {ow:List Nat} {i d:Nat} {ev ev':Operand->Option TV} {op:Op} (h: ∀x∈op.operands,ev x=ev' x) (hl: ∀x∈op.operands,∀t,ev x=some t->lA H H' t):di P items ow i d ev H op=di P items ow i d ev' H' op:=by
 cases op<;>simp only[Op.operands]at h hl<;>try (simp only[di];done)
 case box e x=>simp only[di,<- h x (by simp)]
 case makeSlice t l c=>simp only[di,<- h l (by simp),<- h c (by simp)]
 case buildSlice t n parts=>
  simp only[di];have: ∀n i,pS ev n i parts.toList=pS ev' n i parts.toList:=fun n i=>x9 _ _ (fun p hp=>h p.2 (by simp only[List.mem_toArray,ak];exact⟨p,hp,rfl⟩))
  simp only[this]
 case call c=>
  obtain⟨callee,⟨args⟩,⟨argTypes⟩⟩:=c;simp only[Call.operands]at h hl;cases callee with
  |value f=>
   have he:f6 ev args=f6 ev' args:=ny args (fun x hx=>h x (by simp[hx]));cases f<;>try (simp only[di];done)
   ·rename_i k;simp only[di];rw[<- he,<- h (.tmp k) (by simp)];cases hcl:Iq (ev (.tmp k))with
    |none=>cases List.find? (fun x=>x.i==i) items<;>cases f6 ev args<;>rfl
    |some fe=>
     obtain⟨f,extra⟩:=fe;cases hts:f6 ev args with
     |none=>cases List.find? (fun x=>x.i==i) items<;>rfl
     |some ts0=>
      have hex: ∀t∈extra,lA H H' t:=fun t ht=>by
       unfold Iq at hcl;split at hcl
       ·rename_i f' cs hk;injection hcl with hcl
        injection hcl with hcl hcl'
        subst hcl hcl';have hs:=hl (.tmp k) (by simp) _ hk;simp only[ak]at ht;obtain⟨y,hy,rfl⟩:=ht;exact hs y hy
       ·split at hcl
        ·injection hcl with hcl
         injection hcl with hcl hcl'
         subst hcl hcl';simp at ht
        cases hcl
       cases hcl
      have hlv: ∀t∈ts0++extra,lA H H' t:=fun t ht=>by
       rcases List.mem_append.1 ht with ht|ht
       ·obtain⟨j,hj,rfl⟩:=List.getElem_of_mem ht;obtain⟨x,hx,hxt⟩:=(dm hts).2 j _ (List.getElem?_eq_getElem hj);exact hl x (by simp[aw hx]) _ hxt
       exact hex t ht
      have e1:(ts0++extra).map (ia H')=(ts0++extra).map (ia H):=List.map_congr_left fun t ht=>(jT (hlv t ht)).1
      have e2: ∀b,(ts0++extra).all (eE b H')=(ts0++extra).all (eE b H):=fun b=>by
       rw[Bool.eq_iff_iff];simp only[ai];exact⟨fun hh t ht=>by rw[<- (jT (hlv t ht)).2 b];exact hh t ht,fun hh t ht=>by rw[(jT (hlv t ht)).2 b];exact hh t ht⟩
      cases List.find? (fun x=>x.i==i) items with
      |none=>rfl
      |some it=>
       have ec:(it.f=f/\(ts0++extra).map (ia H')=it.args/\(ts0++extra).all (eE it.res.plain H')=true/\(!it.res.fam.isEmpty||noRefTV it.res.r)=true)↔(it.f=f/\(ts0++extra).map (ia H)=it.args/\(ts0++extra).all (eE it.res.plain H)=true/\(!it.res.fam.isEmpty||noRefTV it.res.r)=true):=by rw[e1,e2]
       by_cases hc:it.f=f/\(ts0++extra).map (ia H)=it.args/\(ts0++extra).all (eE it.res.plain H)=true/\(!it.res.fam.isEmpty||noRefTV it.res.r)=true
       ·simp only[];rw[if_pos hc,if_pos (ec.2 hc)]
       simp only[];rw[if_neg hc,if_neg (fun h=>hc (ec.1 h))]
   rename_i f;simp only[di];rw[<- he];cases hts:f6 ev args with
   |none=>cases List.find? (fun x=>x.i==i) items<;>rfl
   |some ts=>
    have hlv: ∀t∈ts,lA H H' t:=fun t ht=>by
     obtain⟨k,hk,rfl⟩:=List.getElem_of_mem ht;obtain⟨x,hx,hxt⟩:=(dm hts).2 k _ (List.getElem?_eq_getElem hk);exact hl x (by simp[aw hx]) _ hxt
    have e1:ts.map (ia H')=ts.map (ia H):=List.map_congr_left fun t ht=>(jT (hlv t ht)).1
    have e2: ∀b,ts.all (eE b H')=ts.all (eE b H):=fun b=>by
     rw[Bool.eq_iff_iff];simp only[ai];exact⟨fun hh t ht=>by rw[<- (jT (hlv t ht)).2 b];exact hh t ht,fun hh t ht=>by rw[(jT (hlv t ht)).2 b];exact hh t ht⟩
    cases List.find? (fun x=>x.i==i) items with
    |none=>rfl
    |some it=>
     have ec:(it.f=f/\ts.map (ia H')=it.args/\ts.all (eE it.res.plain H')=true/\(!it.res.fam.isEmpty||noRefTV it.res.r)=true)↔(it.f=f/\ts.map (ia H)=it.args/\ts.all (eE it.res.plain H)=true/\(!it.res.fam.isEmpty||noRefTV it.res.r)=true):=by rw[e1,e2]
     by_cases hc:it.f=f/\ts.map (ia H)=it.args/\ts.all (eE it.res.plain H)=true/\(!it.res.fam.isEmpty||noRefTV it.res.r)=true
     ·simp only[];rw[if_pos hc,if_pos (ec.2 hc)]
     simp only[];rw[if_neg hc,if_neg (fun h=>hc (ec.1 h))]
  |builtin b=>
   cases b<;>try (simp only[di];done)
   simp only[di];split
   ·rename_i x y t t';rw[<- h x (by simp),<- h y (by simp)];have e1:(ev y).bind (newsOf H')=(ev y).bind (newsOf H):=by
     cases hy:ev y with
     |none=>rfl
     |some ty=>exact Ji (hl y (by simp) ty hy)
    rw[e1]
   rfl
  |invoke r m=>simp only[di]
end
end
section
inductive OJ where
 |val (t:TV)
 |new (t:TV) (o:OObj) (l:List OObj)
 |wr (q:Dz)
section
variable (P:Program) (items:List (dD P)) (ow:List Nat)
noncomputable def Jt (r:Option (TV×List OObj)):Option OJ:=match r with
 |some (t,[])=>some (.val t)
 |some (t,o::l)=>some (.new t o l)
 |none=>none
noncomputable def lR (i:Nat) (d:Option Tmp) (op:Op) (ev:Operand->Option TV) (H:OH):Option OJ:=
 if ud op then(jc P ev op).map .val
 else if Ou op then(cj P ev H op).map .val
 else match gG P ev H op with
  |some q=>some (.wr q)
  |none=>match d with
   |none=>none
   |some d=>Jt (di P items ow i d ev H op)
def cE (d:Option Tmp) (s:AS):OJ->Option AS
 | .val t=>some (s.put d t)
 | .new t o l=>match d with
  |some d=>(match s.H d with|[]=>some (AS.put ⟨s.tmps,be s.H d (o::l)⟩ (some d) t)|_=>none)
  |none=>none
 | .wr q=>some (AS.put ⟨s.tmps.map (bo q.k),q.H⟩ d q.t)
theorem xI (i:Nat) (o:Oper) (s:AS):eI P items ow i o s=(lR P items ow i o.dst o.op s.ev s.H).bind (cE o.dst s):=by
 unfold eI lR;split
 ·cases jc P s.ev o.op<;>rfl
 split
 ·cases cj P s.ev s.H o.op<;>rfl
 cases gG P s.ev s.H o.op with
 |some q=>rfl
 |none=>
  cases hd:o.dst with
  |none=>rfl
  |some d=>
   simp only;cases hA:di P items ow i d s.ev s.H o.op with
   |none=>rfl
   |some tF=>
    obtain⟨t,F⟩:=tF;cases F with
    |nil=>rfl
    |cons o' l=>simp only[Jt,Option.bind_some,cE];cases s.H d<;>rfl
def gate (ops:Array Oper) (o:Oper) (s:AS):Option Bool:=match o.guard with
 |none=>some true
 |some (g,want)=>match(ops[g]?).bind (·.dst)with
  |none=>none
  |some d=>match s.tmps[d]? with
   |some (.one (.p (.raw (.bool b))))=>some (b==want)
   |some (.tup [])=>some false
   |_=>none
noncomputable def dF (ops:Array Oper) (i:Nat) (o:Oper) (s:AS):Option OJ:=match gate ops o s with
 |some true=>lR P items ow i o.dst o.op s.ev s.H
 |some false=>some (.val .undef)
 |none=>none
theorem b9 (ops:Array Oper) (i:Nat) (o:Oper) (s:AS):bZ P items ow ops i o s=(dF P items ow ops i o s).bind (cE o.dst s):=by
 unfold bZ dF gate;cases hg:o.guard with
 |none=>simp only;exact xI P items ow i o s
 |some gw=>
  obtain⟨g,want⟩:=gw;simp only;cases(ops[g]?).bind (·.dst)with
  |none=>rfl
  |some d=>
   simp only;cases hs:s.tmps[d]? with
   |none=>rfl
   |some t=>
    cases t with
    |agg cs=>rfl
    |fn f cs=>rfl
    |tup ts=>cases ts<;>rfl
    |one x=>
     cases x with
     |sl a r off len=>rfl
     |ptr a r i j=>rfl
     |junk=>rfl
     |p x=>
      cases x with
      |sl xs=>rfl
      |ptr cs=>rfl
      |raw v=>
       cases v<;>try rfl
       rename_i b;simp only;by_cases hbw:b=want
       ·subst hbw;simp only[if_true,beq_self_eq_true];exact xI P items ow i o s
       rw[if_neg hbw];have:(b==want)=false:=by simpa using hbw
       rw[this];rfl
variable {P} {items} {ow}
variable {ops:Array Oper} {s s1 s2 s':AS} {H H':OH}
theorem rb (s:AS) (d:Option Tmp) (t:TV) (k:Nat) (h: ∀e,d=some e->e≠k):(s.put d t).tmps[k]?=s.tmps[k]?:=by
 cases d with
 |none=>rfl
 |some e=>simp only[AS.put];exact List.getElem?_set_ne (h e rfl)
theorem Tq (s:AS) (d:Option Tmp) (t:TV) {x:Operand} (h: ∀e,d=some e->x≠ .tmp e):(s.put d t).ev x=s.ev x:=by
 cases x with
 |tmp k=>exact rb s d t k (fun e he hk=>h e he (by rw[hk]))
 |const v=>rfl
 |global g=>rfl
 |func f=>rfl
theorem gA (s:AS) {d e:Option Tmp} (t u:TV) (h: ∀k,d=some k->e≠some k):(s.put d t).put e u=(s.put e u).put d t:=by
 cases d with
 |none=>rfl
 |some d=>
  cases e with
  |none=>rfl
  |some e=>
   have:d≠e:=fun hde=>h d rfl (by rw[hde])
   simp only[AS.put];rw[List.set_comm _ _ this]
def lg (ops:Array Oper) (o:Oper) (d:Option Tmp):Prop:= ∀e,d=some e->e∉o.looksAt ops
theorem lg.op {o:Oper} {d:Option Tmp} (h:lg ops o d): ∀x∈o.op.operands,∀e,d=some e->x≠ .tmp e:=fun x hx e he hxe=>by
 subst hxe;exact h e he (List.mem_append_left _ (List.mem_filterMap.2 ⟨.tmp e,by simpa using hx,rfl⟩))
theorem lg.gate {o:Oper} {d:Option Tmp} (h:lg ops o d) {g:Nat} {w:Bool} (hg:o.guard=some (g,w)) {k:Tmp} (hk:(ops[g]?).bind (·.dst)=some k): ∀e,d=some e->e≠k:=fun e he hek=>by
 subst hek;refine h e he (List.mem_append_right _ ?_);simp only[hg,hk]
 simp
theorem LB {o:Oper} {d:Option Tmp} (h:lg ops o d) (t:TV):gate ops o (s.put d t)=gate ops o s:=by
 unfold gate;cases hg:o.guard with
 |none=>rfl
 |some gw=>
  obtain⟨g,want⟩:=gw;simp only;cases hk:(ops[g]?).bind (·.dst)with
  |none=>rfl
  |some k=>simp only;rw[rb s d t k (h.gate hg hk)]
theorem PE (k:Nat->Nat->Bool) (H':OH) (x:Operand):AS.ev ⟨s.tmps.map (bo k),H'⟩ x=(s.ev x).map (bo k):=by
 cases x with
 |tmp t=>simp only[AS.ev,az]
 |const v=>
  simp only[AS.ev,ag]
  congr 1
  unfold oV;split
  ·split
   ·simp only[bo];congr 1;rw[List.map_map];rfl
   rfl
  split<;>rfl
 |global g=>rfl
 |func f=>rfl
theorem IK {o:Oper} (k:Nat->Nat->Bool) (H':OH):gate ops o ⟨s.tmps.map (bo k),H'⟩=gate ops o s:=by
 unfold gate;cases hg:o.guard with
 |none=>rfl
 |some gw=>
  obtain⟨g,want⟩:=gw;simp only;cases hk:(ops[g]?).bind (·.dst)with
  |none=>rfl
  |some e=>
   simp only[az];cases s.tmps[e]? with
   |none=>rfl
   |some t=>
    cases t with
    |one x=>
     cases x with
     |p x=>rfl
     |sl a r off len=>simp only[ag,bo,bs];cases k a r<;>rfl
     |ptr a r i j=>simp only[ag,bo,bs];cases k a r<;>rfl
     |junk=>rfl
    |agg cs=>rfl
    |fn f cs=>rfl
    |tup ts=>cases ts<;>rfl
theorem Ed {ev ev':Operand->Option TV} {op:Op} (h: ∀x∈op.operands,ev x=ev' x):gG P ev H op=gG P ev' H op:=by
 cases op<;>simp only[Op.operands]at h<;>try (simp only[gG];done)
 case store t x y=>simp only[gG,<- h x (by simp),<- h y (by simp)]
 case call c=>
  obtain⟨callee,⟨args⟩,⟨argTypes⟩⟩:=c;simp only[Call.operands]at h;simp only[gG];split
  ·rename_i x y t t';rw[<- h x (by simp),<- h y (by simp)]
  rfl
theorem tD {i:Nat} {d:Option Tmp} {ev ev':Operand->Option TV} {op:Op} (h: ∀x∈op.operands,ev x=ev' x) (hs: ∀x∈op.operands,∀t,ev x=some t->lA H H' t) (hD:H'=H\/ ∀e G,gG P e G op=none):
  lR P items ow i d op ev H=lR P items ow i d op ev' H':=by
 unfold lR;rw[vr h,vt h hs];have hd:gG P ev H op=gG P ev' H' op:=by
  rcases hD with rfl|hD
  ·exact Ed h
  rw[hD,hD]
 rw[hd];have ha: ∀d,di P items ow i d ev H op=di P items ow i d ev' H' op:=fun d=>Ea h hs
 simp only[ha]
theorem dc {i:Nat} {o:Oper} {d:Option Tmp} (h:lg ops o d) (t:TV):dF P items ow ops i o (s.put d t)=dF P items ow ops i o s:=by
 unfold dF;rw[LB h,jC];split
 ·exact(tD (fun x hx=>(Tq s d t (h.op x hx)).symm) (fun x _ t _=>CV t) (.inl rfl)).symm
 ·rfl
 rfl
theorem rz {i:Nat} {o:Oper} (hl:ql s) (hg:AY s.H H') (hD: ∀e G,gG P e G o.op=none):dF P items ow ops i o ⟨s.tmps,H'⟩=dF P items ow ops i o s:=by
 unfold dF;rw[show gate ops o ⟨s.tmps,H'⟩=gate ops o s from rfl];split
 ·refine(tD (fun x _=>?_) (fun x _ t ht=>CU (fh hl ht) hg) (.inr hD)).symm;cases x<;>rfl
 ·rfl
 rfl
theorem yF {i:Nat} {o:Oper} (hM:ud o.op=true) {out:OJ} (h:dF P items ow ops i o s=some out): ∃t,out= .val t:=by
 unfold dF lR at h;split at h
 ·rw[if_pos hM]at h;obtain⟨t,_,rfl⟩:=Option.map_eq_some_iff.1 h;exact⟨t,rfl⟩
 ·injection h with h;exact⟨_,h.symm⟩
 cases h
theorem wU {i:Nat} {o:Oper} (hM:ud o.op=true) (tm:List TV) (H H':OH):dF P items ow ops i o ⟨tm,H⟩=dF P items ow ops i o ⟨tm,H'⟩:=by
 unfold dF lR;rw[show gate ops o ⟨tm,H⟩=gate ops o ⟨tm,H'⟩from rfl];simp only[hM,if_true];rfl
theorem rA {i:Nat} {o:Oper} (hM:ud o.op=true) (k:Nat->Nat->Bool) (H':OH) {t':TV}:dF P items ow ops i o ⟨s.tmps.map (bo k),H'⟩=some (.val t')↔ ∃t,dF P items ow ops i o s=some (.val t)/\t'=bo k t:=by
 unfold dF lR;rw[IK];cases gate ops o s with
 |none=>simp
 |some b=>
  cases b with
  |false=>
   simp only[Option.some.injEq,OJ.val.injEq];constructor
   ·rintro rfl;exact⟨_,rfl,rfl⟩
   rintro⟨t,rfl,rfl⟩;rfl
  |true=>
   simp only[hM,if_true];have e:jc P (AS.ev ⟨s.tmps.map (bo k),H'⟩) o.op=(jc P s.ev o.op).map (bo k):=by
    rw[<- IE];exact vr (fun x _=>PE k H' x)
   rw[e];cases jc P s.ev o.op with
   |none=>simp
   |some t=>
    simp only[ag,Option.some.injEq,OJ.val.injEq];constructor
    ·rintro rfl;exact⟨t,rfl,rfl⟩
    rintro⟨t,rfl,rfl⟩;rfl
theorem MM (tm:List TV) (H:OH) (d:Option Tmp) (t:TV):AS.put ⟨tm,H⟩ d t=⟨(AS.put ⟨tm,H⟩ d t).tmps,H⟩:=by cases d<;>rfl
theorem GK (s:AS) (k:Nat->Nat->Bool) (H':OH) (d:Option Tmp) (t:TV):(⟨(s.put d t).tmps.map (bo k),H'⟩:AS)=AS.put ⟨s.tmps.map (bo k),H'⟩ d (bo k t):=by
 cases d with
 |none=>rfl
 |some d=>simp only[AS.put,List.map_set]
def Uy (P:Program) (oi oj:Oper):Prop:=ud oi.op=true\/ud oj.op=true\/((∀e G,gG P e G oi.op=none)/\ ∀e G,gG P e G oj.op=none)
theorem qv {d:Option Tmp} {out:OJ} (hw: ∀q,out≠ .wr q) (h:cE d s out=some s1): ∃t H1,s1=AS.put ⟨s.tmps,H1⟩ d t/\AY s.H H1/\((H1=s.H/\out= .val t)\/ ∃e o l,d=some e/\s.H e=[]/\H1=be s.H e (o::l)/\out= .new t o l):=by
 cases out with
 |val t=>simp only[cE]at h;injection h with h;exact⟨t,s.H,h.symm,fun _ _=>rfl,.inl ⟨rfl,rfl⟩⟩
 |new t o l=>
  simp only[cE]at h;cases d with
  |none=>cases h
  |some e=>
   simp only at h;split at h
   ·rename_i hH;injection h with h
    refine⟨t,be s.H e (o::l),h.symm,fun a ha=>?_,.inr ⟨e,o,l,rfl,hH,rfl,rfl⟩⟩;exact aZ (by rintro rfl;exact ha hH)
   cases h
 |wr q=>exact absurd rfl (hw q)
theorem JR {i j:Nat} {oi oj:Oper} (hl:ql s) (hij:lg ops oj oi.dst) (hji:lg ops oi oj.dst) (hd: ∀k,oi.dst=some k->oj.dst≠some k) (hsw:Uy P oi oj)
  (h1:bZ P items ow ops i oi s=some s1) (h2:bZ P items ow ops j oj s1=some s'): ∃s2,bZ P items ow ops j oj s=some s2/\bZ P items ow ops i oi s2=some s':=by
 rw[b9]at h1 h2;obtain⟨ui,hui,h1⟩:=Option.bind_eq_some_iff.1 h1;obtain⟨uj,huj,h2⟩:=Option.bind_eq_some_iff.1 h2;by_cases hMi:ud oi.op=true
 ·obtain⟨t,rfl⟩:=yF hMi hui;simp only[cE]at h1;injection h1 with h1
  subst h1;rw[dc hij]at huj;cases uj with
  |val u=>
   simp only[cE]at h2;injection h2 with h2
   subst h2;refine⟨s.put oj.dst u,by rw[b9,huj];rfl,?_⟩;rw[b9,dc hji,hui];simp only[Option.bind_some,cE];rw[gA s t u hd]
  |new u o l=>
   simp only[cE,jC]at h2;cases hdj:oj.dst with
   |none=>rw[hdj]at h2;cases h2
   |some e=>
    rw[hdj]at h2;simp only at h2;split at h2
    ·rename_i hH;injection h2 with h2
     subst h2;refine⟨AS.put ⟨s.tmps,be s.H e (o::l)⟩ (some e) u,by rw[b9,huj];simp only[Option.bind_some,cE,hdj,hH],?_⟩;rw[b9,<- hdj,dc hji,wU hMi s.tmps _ s.H];rw[show(⟨s.tmps,s.H⟩:AS)=s from rfl,hui];simp only[Option.bind_some,cE];rw[gA _ u t (fun k hk hk'=>hd k hk' (by rw[hk]))]
     congr 2
     cases oi.dst<;>rfl
    cases h2
  |wr q=>
   simp only[cE]at h2;injection h2 with h2
   subst h2;refine⟨AS.put ⟨s.tmps.map (bo q.k),q.H⟩ oj.dst q.t,by rw[b9,huj];rfl,?_⟩;rw[b9,dc hji,(rA hMi q.k q.H).2 ⟨t,hui,rfl⟩];simp only[Option.bind_some,cE];rw[GK,gA _ _ _ (fun k hk hk'=>hd k hk' (by rw[hk]))]
 by_cases hMj:ud oj.op=true
 ·obtain⟨u,rfl⟩:=yF hMj huj;simp only[cE]at h2;injection h2 with h2
  subst h2;cases ui with
  |val t=>
   simp only[cE]at h1;injection h1 with h1
   subst h1;rw[dc hij]at huj;refine⟨s.put oj.dst u,by rw[b9,huj];rfl,?_⟩;rw[b9,dc hji,hui];simp only[Option.bind_some,cE];rw[gA s t u hd]
  |new t o l=>
   simp only[cE]at h1;cases hdi:oi.dst with
   |none=>rw[hdi]at h1;cases h1
   |some e=>
    rw[hdi]at h1;simp only at h1;split at h1
    ·rename_i hH;injection h1 with h1
     subst h1;rw[<- hdi,dc hij,wU hMj s.tmps _ s.H,show(⟨s.tmps,s.H⟩:AS)=s from rfl]at huj;refine⟨s.put oj.dst u,by rw[b9,huj];rfl,?_⟩;rw[b9,dc hji,hui];simp only[Option.bind_some,cE,jC,hdi,hH];rw[gA _ t u (fun k hk=>hd k (by rw[hdi];exact hk))]
     congr 2
     cases oj.dst<;>rfl
    cases h1
  |wr q=>
   simp only[cE]at h1;injection h1 with h1
   subst h1;rw[dc hij]at huj;obtain⟨u0,hu0,rfl⟩:=(rA hMj q.k q.H).1 huj;refine⟨s.put oj.dst u0,by rw[b9,hu0];rfl,?_⟩;rw[b9,dc hji,hui];simp only[Option.bind_some,cE];rw[GK,gA _ _ _ hd]
 obtain⟨hDi,hDj⟩:(∀e G,gG P e G oi.op=none)/\ ∀e G,gG P e G oj.op=none:=by
  rcases hsw with h|h|h
  ·exact absurd h hMi
  ·exact absurd h hMj
  exact h
 have nowr: ∀{i:Nat} {o:Oper} {s:AS} {u:OJ},(∀e G,gG P e G o.op=none)->dF P items ow ops i o s=some u-> ∀q,u≠ .wr q:=fun{i o s u} hD hu q hq=>by
  subst hq;unfold dF lR at hu;split at hu
  ·split at hu
   ·obtain⟨_,_,hh⟩:=Option.map_eq_some_iff.1 hu;cases hh
   split at hu
   ·obtain⟨_,_,hh⟩:=Option.map_eq_some_iff.1 hu;cases hh
   rw[hD]at hu;simp only at hu;split at hu
   ·cases hu
   unfold Jt at hu;split at hu<;>cases hu
  ·cases hu
  cases hu
 obtain⟨t,H1,rfl,hg1,hc1⟩:=qv (nowr hDi hui) h1;rw[dc hij,rz hl hg1 hDj]at huj;obtain⟨u,H2,rfl,hg2,hc2⟩:=qv (nowr hDj huj) h2;simp only[jC]at hc2 hg2
 -- what j does to s alone
 have hj: ∃H3,bZ P items ow ops j oj s=some (AS.put ⟨s.tmps,H3⟩ oj.dst u)/\AY s.H H3/\((H3=s.H/\H2=H1)\/ ∃e o l,oj.dst=some e/\H3=be s.H e (o::l)/\H2=be H1 e (o::l)):=by
  rcases hc2 with⟨e1,e2⟩|⟨e,o,l,e1,e2,e3,e4⟩
  ·exact⟨s.H,by rw[b9,huj,e2];rfl,fun _ _=>rfl,.inl ⟨rfl,e1⟩⟩
  have hse:s.H e=[]:=by
   rcases hc1 with⟨c1,_⟩|⟨e',o',l',c1,c2,c3,_⟩
   ·rw[<- c1];exact e2
   rw[c3,aZ (by rintro rfl;exact hd _ c1 e1)]at e2;exact e2
  refine⟨be s.H e (o::l),by rw[b9,huj,e4];simp only[Option.bind_some,cE,e1,hse],fun a ha=>aZ (by rintro rfl;exact ha hse),.inr ⟨e,o,l,e1,rfl,e3⟩⟩
 obtain⟨H3,hj1,hg3,hj2⟩:=hj;refine⟨_,hj1,?_⟩;rw[b9,dc hji,rz hl hg3 hDi,hui];simp only[Option.bind_some];rcases hc1 with⟨c1,c2⟩|⟨e',o',l',c1,c2,c3,c4⟩
 ·subst c2;simp only[cE];rw[gA _ u t (fun k hk hk'=>hd k hk' (by rw[hk]))]
  congr 1
  have:H3=H2:=by
   rcases hj2 with⟨q1,q2⟩|⟨e,o,l,q0,q1,q2⟩
   ·rw[q1,q2,c1]
   rw[q1,q2,c1]
  rw[this,MM s.tmps H1,c1];cases oi.dst<;>rfl
 subst c4;have hH3:H3 e'=[]:=by
  rcases hj2 with⟨q1,_⟩|⟨e,o,l,q0,q1,_⟩
  ·rw[q1];exact c2
  rw[q1,aZ (by rintro rfl;exact hd _ c1 q0)];exact c2
 simp only[cE,c1,jC,hH3];have e1:(⟨(AS.put ⟨s.tmps,H3⟩ oj.dst u).tmps,be H3 e' (o'::l')⟩:AS)=AS.put ⟨s.tmps,be H3 e' (o'::l')⟩ oj.dst u:=by cases oj.dst<;>rfl
 rw[e1,gA _ u t (fun k hk hk'=>hd k (by rw[c1];exact hk') (by rw[hk]))]
 congr 1
 have:be H3 e' (o'::l')=H2:=by
  rcases hj2 with⟨q1,q2⟩|⟨e,o,l,q0,q1,q2⟩
  ·rw[q1,q2,c3]
  rw[q1,q2,c3];funext z;have hne:e'≠e:=by rintro rfl;exact hd _ c1 q0
  by_cases h1:z=e'
  ·subst h1;rw[bF,aZ hne,bF]
  rw[aZ h1];by_cases h2:z=e
  ·subst h2;rw[bF,bF]
  rw[aZ h2,aZ h2,aZ h1]
 rw[this,MM s.tmps H1];rfl
end
end
section
section
variable {P:Program} {items:List (dD P)} {ow:List Nat} {ops:Array Oper} {s s1 s':AS} {H H':OH}
theorem EM {t:TV} (h:noRefTV t=true):gY H t:=by
 have av: ∀x,f7 x=true->gI H x:=fun x hx=>by cases x<;>first|trivial|cases hx
 cases t with
 |one x=>exact av x h
 |agg cs=>simp only[noRefTV,ai]at h;exact fun x hx=>av x (h x hx)
 |fn f cs=>simp only[noRefTV,ai]at h;exact fun x hx=>av x (h x hx)
 |tup ts=>simp only[noRefTV,ai]at h;exact fun t ht x hx=>av x (h t ht x hx)
theorem CX {t:TV} {d:Nat} (h:selfTV d t) (hd:H d≠[]):gY H t:=by
 have av: ∀x,cW d x->gI H x:=fun x hx=>by
  cases x with
  |sl a _ _ _=>have hx:a=d:=hx;subst hx;exact hd
  |ptr a _ _ _=>have hx:a=d:=hx;subst hx;exact hd
  |p x=>trivial
  |junk=>trivial
 cases t with
 |one x=>exact av x h
 |agg cs=>exact fun x hx=>av x (h x hx)
 |fn f cs=>exact fun x hx=>av x (h x hx)
 |tup ts=>exact fun t ht x hx=>av x (h t ht x hx)
theorem jp (d:Nat) (x:AV):cW d (dq d x):=by cases x<;>first|rfl|trivial
theorem wz (d:Nat) (t:TV):selfTV d (renTV d t):=by
 cases t with
 |one x=>exact jp d x
 |agg cs=>intro x hx;simp only[ak]at hx;obtain⟨y,_,rfl⟩:=hx;exact jp d y
 |fn f cs=>intro x hx;simp only[ak]at hx;obtain⟨y,_,rfl⟩:=hx;exact jp d y
 |tup ts=>
  intro t ht x hx;simp only[ak]at ht;obtain⟨t',_,rfl⟩:=ht;simp only[ak]at hx;obtain⟨y,_,rfl⟩:=hx;exact jp d y
theorem yn {d:Nat} {t:TV} (h:noRefTV t=true):noRefTV (renTV d t)=true:=by
 have av: ∀x,f7 x=true->f7 (dq d x)=true:=fun x hx=>by cases x<;>first|rfl|cases hx
 cases t with
 |one x=>exact av x h
 |agg cs=>simp only[noRefTV,ai]at h;simp only[renTV,noRefTV,ai,ak];rintro _ ⟨x,hx,rfl⟩;exact av x (h x hx)
 |fn f cs=>simp only[noRefTV,ai]at h;simp only[renTV,noRefTV,ai,ak];rintro _ ⟨x,hx,rfl⟩;exact av x (h x hx)
 |tup ts=>
  simp only[noRefTV,ai]at h;simp only[renTV,noRefTV,ai,ak];rintro _ ⟨t,ht,rfl⟩ _ hx;simp only[ak]at hx;obtain⟨x,hx,rfl⟩:=hx;exact av x (h t ht x hx)
theorem dK {a:Nat} {o:OObj} (h: ∀e∈o.elems,∀x∈e,isPure x=true):selfO a o:=fun e he x hx=>fV (h e he x hx)
theorem yl {t:TV} {news:List (List AV)} (h:newsOf H t=some news): ∀e∈news,∀x∈e,isPure x=true:=by
 unfold newsOf at h;split at h
 ·injection h with h
  subst h;intro e he x hx;simp only[ak]at he;obtain⟨e',_,rfl⟩:=he;simp only[ak]at hx;obtain⟨x',_,rfl⟩:=hx;rfl
 ·injection h with h;subst h;intro e he;simp at he
 ·split at h
  ·split at h
   ·rename_i hp;injection h with h
    subst h;simp only[ai]at hp;exact fun e he x hx=>hp e (List.mem_of_mem_take (List.mem_of_mem_drop he)) x hx
   cases h
  cases h
 cases h
theorem Ca {ev:Operand->Option TV} {n:Nat}: ∀(parts:List (Nat×Operand)) (i:Nat) (l:List (List AV)),pS ev n i parts=some l-> ∀e∈l,∀x∈e,isPure x=true
 |[],i,l,h=>by simp only[pS]at h;injection h with h;subst h;intro e he;simp at he
 |(k,x)::rest,i,l,h=>by
  simp only[pS]at h;split at h
  ·rename_i cs l' hcs hl';split at h
   ·rename_i hc;injection h with h
    subst h;intro e he y hy;rcases List.mem_cons.1 he with rfl|he
    ·have:=hc.2.2;simp only[ai]at this;exact this y hy
    exact Ca rest (i+1) l' hl' e he y hy
   cases h
  cases h
theorem Ec {i d:Nat} {ev:Operand->Option TV} {op:Op} {t:TV} {F:List OObj} (h:di P items ow i d ev H op=some (t,F)):selfTV d t/\(F=[]->noRefTV t=true)/\ ∀o∈F,selfO d o:=by
 cases op<;>simp only[di]at h<;>try cases h
 case box e x=>
  split at h
  ·split at h
   ·rename_i hc;injection h with h
    injection h with h1 h2
    subst h1 h2;refine⟨rfl,fun h=>by simp at h,fun o ho=>?_⟩;simp at ho;subst ho;have:=hc.1;simp only[ai]at this;exact dK (fun e he x hx=>by simp at he;subst he;exact this x hx)
   cases h
  cases h
 case alloc e=>
  split at h
  ·split at h
   ·injection h with h
    injection h with h1 h2
    subst h1 h2;refine⟨rfl,fun h=>by simp at h,fun o ho=>?_⟩;simp at ho;subst ho;exact dK (fun e he x hx=>by simp at he;subst he;simp at hx;obtain⟨y,_,rfl⟩:=hx;rfl)
   cases h
  cases h
 case makeSlice ty l c=>
  split at h
  ·split at h
   ·split at h
    ·injection h with h
     injection h with h1 h2
     subst h1 h2;refine⟨rfl,fun h=>by simp at h,fun o ho=>?_⟩;simp at ho;subst ho;exact dK (fun e he x hx=>by simp[List.mem_replicate]at he;rw[he.2]at hx;simp at hx;obtain⟨y,_,rfl⟩:=hx;rfl)
    cases h
   cases h
  cases h
 case buildSlice ty n parts=>
  split at h
  ·split at h
   ·split at h
    ·rename_i l hl;split at h
     ·split at h
      ·injection h with h
       injection h with h1 h2
       subst h1 h2;refine⟨rfl,fun h=>by simp at h,fun o ho=>?_⟩;simp at ho;subst ho;exact dK (Ca _ _ _ hl)
      injection h with h
      injection h with h1 h2
      subst h1 h2;exact⟨trivial,fun _=>rfl,fun o ho=>by simp at ho⟩
     cases h
    cases h
   cases h
  cases h
 case call c=>
  split at h
  ·split at h
   ·rename_i it ts hit hts;split at h
    ·rename_i hc;injection h with h
     injection h with h1 h2
     subst h1 h2;refine⟨wz _ _,fun hF=>?_,fun o ho=>?_⟩
     ·have h4:=hc.2.2.2;simp only[List.map_eq_nil_iff]at hF;rw[hF]at h4;exact yn (by simpa using h4)
     simp only[ak]at ho;obtain⟨o',_,rfl⟩:=ho;intro e he x hx;simp only[renO,ak]at he;obtain⟨e',_,rfl⟩:=he;simp only[ak]at hx;obtain⟨y,_,rfl⟩:=hx;exact jp d y
    cases h
   cases h
  ·split at h
   ·rename_i f extra it ts hcl hit hts;split at h
    ·rename_i hc;injection h with h
     injection h with h1 h2
     subst h1 h2;refine⟨wz _ _,fun hF=>?_,fun o ho=>?_⟩
     ·have h4:=hc.2.2.2;simp only[List.map_eq_nil_iff]at hF;rw[hF]at h4;exact yn (by simpa using h4)
     simp only[ak]at ho;obtain⟨o',_,rfl⟩:=ho;intro e he x hx;simp only[renO,ak]at he;obtain⟨e',_,rfl⟩:=he;simp only[ak]at hx;obtain⟨y,_,rfl⟩:=hx;exact jp d y
    cases h
   cases h
  ·split at h
   ·split at h
    ·rename_i news e hs hx hsl;split at h
     ·split at h
      ·injection h with h
       injection h with h1 h2
       subst h1 h2;refine⟨rfl,fun h=>by simp at h,fun o ho=>?_⟩;simp at ho;subst ho;obtain⟨tx,_,hn⟩:=Option.bind_eq_some_iff.1 hx;exact dK (yl hn)
      cases h
     cases h
    cases h
   cases h
  cases h
theorem kQ {k:Nat->Nat->Bool} {x:AV} (h: ∀a r,H a≠[]->k a r=false->H' a≠[]) (hx:gI H x):gI H' (bs k x):=by
 cases x with
 |sl a r off len=>
  simp only[bs];cases hk:k a r with
  |true=>trivial
  |false=>exact h a r hx hk
 |ptr a r i j=>
  simp only[bs];cases hk:k a r with
  |true=>trivial
  |false=>exact h a r hx hk
 |p x=>trivial
 |junk=>trivial
theorem tz {k:Nat->Nat->Bool} {t:TV} (h: ∀a r,H a≠[]->k a r=false->H' a≠[]) (hx:gY H t):gY H' (bo k t):=by
 cases t with
 |one x=>exact kQ h hx
 |agg cs=>intro y hy;simp only[ak]at hy;obtain⟨z,hz,rfl⟩:=hy;exact kQ h (hx z hz)
 |fn f cs=>intro y hy;simp only[ak]at hy;obtain⟨z,hz,rfl⟩:=hy;exact kQ h (hx z hz)
 |tup ts=>
  intro t ht y hy;simp only[ak]at ht;obtain⟨t',ht',rfl⟩:=ht;simp only[ak]at hy;obtain⟨z,hz,rfl⟩:=hy;exact kQ h (hx t' ht' z hz)
theorem wO {a r:Nat} {l:List OObj} {o o':OObj} (hl: ∀o∈l,selfO a o) (ho':selfO a o'): ∀o∈l.set r o',selfO a o:=fun x hx=>by
 rcases List.mem_or_eq_of_mem_set hx with hx|rfl
 ·exact hl x hx
 exact ho'
theorem wu {a i j:Nat} {o:OObj} {e cs:List AV} (ho:selfO a o) (he:o.elems[i]?=some e) (hc: ∀x∈cs,cW a x):selfO a {o with elems:=o.elems.set i (dp e j cs)}:=fun y hy x hx=>by
 rcases List.mem_or_eq_of_mem_set hy with hy|rfl
 ·exact ho y hy x hx
 unfold dp at hx;simp only[List.mem_append]at hx;rcases hx with(hx|hx)|hx
 ·exact ho e (aw he) x (List.mem_of_mem_take hx)
 ·exact hc x hx
 exact ho e (aw he) x (List.mem_of_mem_drop hx)
theorem ID (hl:ql s) {op:Op} {q:Dz} (h:gG P s.ev s.H op=some q):(∀a r,s.H a≠[]->q.k a r=false->q.H a≠[])/\(∀a,∀o∈q.H a,selfO a o)/\gY q.H q.t:=by
 have hundef: ∀H,gY H TV.undef:=fun H t ht=>by simp at ht
 have upd1: ∀{a r:Nat} {o:OObj} {F:List OObj},(s.H a)[r]?=some o->F.length>=(s.H a).length->(∀o∈F,selfO a o)->(∀(b r':Nat),s.H b≠[]->be s.H a F b≠[])/\ ∀b,∀o∈be s.H a F b,selfO b o:=fun{a r o F} ho hlen hF=>by
  have hpos:0<(s.H a).length:=by have:=(List.getElem?_eq_some_iff.1 ho).1;omega
  refine⟨fun b _ hb=>?_,fun b o' ho'=>?_⟩
  ·by_cases hba:b=a
   ·subst hba;rw[bF];intro h0;rw[h0]at hlen;simp at hlen;simp[hlen]at hpos
   rw[aZ hba];exact hb
  by_cases hba:b=a
  ·subst hba;rw[bF]at ho';exact hF o' ho'
  rw[aZ hba]at ho';exact hl.2 b o' ho'
 cases op<;>simp only[gG]at h<;>try cases h
 case store t ad x=>
  split at h
  ·rename_i a r i j n had hn;split at h
   ·rename_i o ho;have hso:=hl.2 a o (aw ho);split at h
    ·rename_i e he;split at h
     ·rename_i a' r' off len hx;split at h
      ·rename_i haa;subst haa;split at h
       ·injection h with h
        subst h;obtain⟨g1,g2⟩:=upd1 ho (F:=(s.H a').set r {o with elems:=o.elems.set i (dp e j [.sl a' r' off len])}) (by simp) (wO (o:=o) (hl.2 a') (wu hso he (fun y hy=>by simp at hy;subst hy;rfl)));exact⟨fun b r hb _=>g1 b r hb,g2,hundef _⟩
       cases h
      rename_i haa;split at h
      ·rename_i ob hH;split at h
       ·rename_i hc;injection h with h
        subst h;have hp:=hc.2.2.2.2.2.2;simp only[ai]at hp;obtain⟨g1,g2⟩:=upd1 ho (F:=(s.H a).set r {o with elems:=o.elems.set i (dp e j [.sl a (s.H a).length 0 len])}++[ob]) (by simp) (fun y hy=>by
         rcases List.mem_append.1 hy with hy|hy
         ·exact wO (o:=o) (hl.2 a) (wu hso he (fun y hy=>by simp at hy;subst hy;rfl)) y hy
         simp at hy;subst hy;exact dK hp)
        refine⟨fun b r hb hk=>?_,fun b o' ho'=>?_,hundef _⟩
        ·have hba:b≠a':=by simpa using hk
         show be _ a' [] b≠[];rw[aZ hba];exact g1 b r hb
        by_cases hba:b=a'
        ·subst hba;simp only[bF]at ho';simp at ho'
        simp only[aZ hba]at ho';exact g2 b o' ho'
       cases h
      cases h
     ·rename_i v hv hx;split at h
      ·rename_i cs hcs;split at h
       ·rename_i hc;injection h with h
        subst h;have hp:=hc.2.2;simp only[ai]at hp;obtain⟨g1,g2⟩:=upd1 ho (F:=(s.H a).set r {o with elems:=o.elems.set i (dp e j cs)}) (by simp) (wO (o:=o) (hl.2 a) (wu hso he (fun y hy=>fV (hp y hy))));exact⟨fun b r hb _=>g1 b r hb,g2,hundef _⟩
       cases h
      cases h
     cases h
    cases h
   cases h
  cases h
 case call c=>
  split at h
  ·split at h
   ·rename_i a r off len news e hs hx hsl;split at h
    ·rename_i o z sz by_ ho hz hszo hby;split at h
     ·injection h with h
      subst h;obtain⟨tx,_,hn⟩:=Option.bind_eq_some_iff.1 hx;have hso:=hl.2 a o (aw ho);obtain⟨g1,g2⟩:=upd1 ho (F:=((s.H a).map (iz fun x y=>x==a&&y==r)).set r {o with elems:=o.elems++news}) (by simp) (fun y hy=>by
       rcases List.mem_or_eq_of_mem_set hy with hy|rfl
       ·simp only[ak]at hy;obtain⟨o2,ho2,rfl⟩:=hy;intro e he x hx;simp only[iz,ak]at he;obtain⟨e',he',rfl⟩:=he;simp only[ak]at hx;obtain⟨x',hx',rfl⟩:=hx;have:=hl.2 a o2 ho2 e' he' x' hx';cases x' with
        |sl b _ _ _=>simp only[bs];split;trivial;exact this
        |ptr b _ _ _=>simp only[bs];split;trivial;exact this
        |p x=>trivial
        |junk=>trivial
       intro e he x hx;rcases List.mem_append.1 he with he|he
       ·exact hso e he x hx
       exact fV (yl hn e he x hx))
      refine⟨fun b r hb _=>g1 b r hb,g2,?_⟩;exact g1 a r (by intro h0;rw[h0]at ho;simp at ho)
     cases h
    cases h
   cases h
  cases h
theorem y6 {i:Nat} {o:Oper} (hl:ql s) (h:bZ P items ow ops i o s=some s1):ql s1:=by
 rw[b9]at h;obtain⟨out,hout,h⟩:=Option.bind_eq_some_iff.1 h;unfold dF at hout;have hundef:gY s.H TV.undef:=fun t ht=>by simp at ht
 split at hout
 ·unfold lR at hout;split at hout
  ·obtain⟨t,ht,rfl⟩:=Option.map_eq_some_iff.1 hout;simp only[cE]at h;injection h with h;subst h
   exact lS hl (IF hl ht)
  split at hout
  ·obtain⟨t,ht,rfl⟩:=Option.map_eq_some_iff.1 hout;simp only[cE]at h;injection h with h;subst h
   exact lS hl (IG hl ht)
  split at hout
  ·rename_i q hq;injection hout with hout
   subst hout;simp only[cE]at h;injection h with h;subst h
   obtain⟨g1,g2,g3⟩:=ID hl hq;refine lS ⟨fun t x hx=>?_,g2⟩ g3;simp only[az]at hx;obtain⟨y,hy,rfl⟩:=Option.map_eq_some_iff.1 hx;exact tz g1 (hl.1 t y hy)
  split at hout
  ·cases hout
  rename_i d hd;cases hA:di P items ow i d s.ev s.H o.op with
  |none=>rw[hA]at hout;cases hout
  |some tF=>
   obtain⟨t,F⟩:=tF;rw[hA]at hout;obtain⟨f1,f2,f3⟩:=Ec hA;cases F with
   |nil=>
    simp only[Jt]at hout;injection hout with hout
    subst hout;simp only[cE]at h;injection h with h;subst h
    exact lS hl (EM (f2 rfl))
   |cons o' l=>
    simp only[Jt]at hout;injection hout with hout
    subst hout;simp only[cE,hd]at h;split at h
    ·rename_i hH;injection h with h
     subst h;refine lS ⟨fun k x hx=>?_,fun b o2 ho2=>?_⟩ (CX f1 (by simp[bF]))
     ·have:=hl.1 k x hx;have hg: ∀a,s.H a≠[]->be s.H d (o'::l) a≠[]:=fun a ha=>by rw[aZ (by rintro rfl;exact ha hH)];exact ha
      have:=tz (H':=be s.H d (o'::l)) (k:=fun _ _=>false) (fun a _ ha _=>hg a ha) this;rwa[mq]at this
     by_cases hb:b=d
     ·subst hb;simp only[bF]at ho2;exact f3 o2 ho2
     simp only[aZ hb]at ho2;exact hl.2 b o2 ho2
    cases h
 ·injection hout with hout
  subst hout;simp only[cE]at h;injection h with h;subst h
  exact lS hl hundef
 cases hout
end
end
end Go.Proofs.YtiollbhgpiiodaaGreatDoor
