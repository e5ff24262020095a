/-
  Part 6 of a proof (walks and plain facts).
-/
import Derived.Test.YtalmoejhjceflaaGreatP04
import Derived.StillTailTactics
import Derived.Sort.Grow
import Derived.Deep.DeepFit
set_option linter.all false
set_option maxRecDepth 100000
set_option maxHeartbeats 64000000
namespace Go.Proofs.YtalmoejhjceflaaGreat
open Go.RowKit Go.Proofs.Tryz
variable {b c:List Nat} {e f:List Int} {g:Array Oper} {x y:Int} {h:Nat->Prop} {s:AS} {n:Nat} {j:TV} {P:Program} {l:List AV} {m:Prop} {o:Func}
section
structure SZ where
 i:Nat
 d:Option Tmp
 op:Op
 g:Option (Tmp×Bool)
def CP (c:Array Oper) (o:Oper) (i:Nat):SZ:=match o.guard with
 |none=>⟨i,o.dst,o.op,none⟩
 |some (g,b)=>match(c[g]?).bind (·.dst)with
  |some d=>⟨i,o.dst,o.op,some (d,b)⟩
  |none=>⟨i,none,.extract (.func 0) 0,none⟩
def aJ (b:Array Oper):List Oper->Nat->List SZ
 |[],_=>[]
 |o::l,i=>CP b o i::aJ b l (i+1)
section
variable (P:Program) (items:List (dc P)) (ow:List Nat)
noncomputable def Wl (i : Nat) (d : Option Tmp) (op : Op) (s : AS) : Option AS := dL P items ow i ⟨d, op, 0, "", #[], none⟩ s
noncomputable def cW:SZ->AS->Option AS
 |⟨i,d,op,none⟩,s=>Wl P items ow i d op s
 |⟨i,d,op,some (k,c)⟩,s=>match s.tmps[k]? with
  |some (.one (.p (.raw (.bool b))))=>if b=c then Wl P items ow i d op s else some (s.put d .undef)
  |some (.tup [])=>some (s.put d .undef)
  |_=>none
noncomputable def aV:List SZ->Option AS->(AS->Prop)->Prop
 |_,none,_=>False
 |[],some s,Q=>Q s
 |st::l,some s,Q=>aV l (cW P items ow st s) Q
theorem JN (l:List SZ) (Q:AS->Prop):aV P items ow l none Q=False:=by cases l<;>rfl
theorem Nv (s:AS) (Q:AS->Prop):aV P items ow [] (some s) Q=Q s:=rfl
theorem yH (b:SZ) (l:List SZ) (s:AS) (Q:AS->Prop):aV P items ow (b::l) (some s) Q=aV P items ow l (cW P items ow b s) Q:=rfl
theorem uA (i : Nat) (o : Oper) (s : AS) : dL P items ow i ⟨o.dst, o.op, 0, "", #[], none⟩ s = dL P items ow i o s := rfl
theorem xJ {i:Nat} {o:Oper} {c:AS} (b:dL P items ow i o s=some c):c.tmps.length=s.tmps.length:=by
 unfold dL at b;split at b
 ·obtain⟨t,_,rfl⟩:=XI.1 b;exact eY _ _ _
 split at b
 ·obtain⟨t,_,rfl⟩:=XI.1 b;exact eY _ _ _
 split at b
 ·injection b with b;subst b;rw[eY];simp
 split at b
 ·cases b
 split at b
 ·injection b with b;subst b;exact eY _ _ _
 ·split at b
  ·injection b with b;subst b;rw[eY]
  cases b
 cases b
theorem J0 {o:Oper} {i:Nat} {j:AS} (h:cW P items ow (CP g o i) s=some j):aQ P items ow g i o s=some j/\j.tmps.length=s.tmps.length:=by
 unfold CP at h;unfold aQ;cases m:o.guard with
 |none=>
  rw[m]at h;simp only[cW,Wl,uA]at h;exact⟨h,xJ P items ow h⟩
 |some p=>
  obtain⟨c,n⟩:=p;rw[m]at h;simp only at h⊢;cases l:(g[c]?).bind (·.dst)with
  |none=>
   rw[l]at h;cases h
  |some d=>
   rw[l]at h;simp only[cW,Wl,uA]at h;simp only;split at h
   ·rename_i b f;rw[f];simp only;split at h
    ·rename_i e;rw[if_pos e];exact⟨h,xJ P items ow h⟩
    rename_i e;rw[if_neg e];exact⟨h,by injection h with h;subst h;exact eY _ _ _⟩
   ·rename_i f;rw[f];exact⟨h,by injection h with h;subst h;exact eY _ _ _⟩
   cases h
theorem aO (b:Array Oper): ∀(l:List Oper) (i:Nat) (s:AS) (Q:AS->Prop),aV P items ow (aJ b l i) (some s) Q-> ∃e,gZ P items ow b (l.zipIdx i) s=some e/\Q e
 |[],i,s,Q,h=>⟨s,rfl,h⟩
 |o::l,i,s,Q,h=>by
  simp only[aJ,yH]at h;simp only[ZA,gZ];cases c:cW P items ow (CP b o i) s with
  |none=>rw[c,JN]at h;exact h.elim
  |some g=>
   rw[c]at h;obtain⟨f,j⟩:=J0 P items ow c;rw[f];exact aO b l (i+1) g Q h
variable {P}
theorem tl (items:List (an P)) (ow:List Nat) {id:Nat} {Q:Exit->AS->Prop} (h:aV P (items.map an.a) ow (aJ g g.toList 0) (some s) (Q .normal)):bs P (.region id g false) Q s:=by
 obtain⟨e,b,c⟩:=aO P (items.map an.a) ow g g.toList 0 s (Q .normal) h;exact DS _ (an.ok items) ow b c
variable {items} {ow}
variable {i:Nat} {d:Option Tmp} {s:AS}
theorem JZ (op:Op) (k:Tmp) (c:Bool):cW P items ow ⟨i,d,op,some (k,c)⟩ s=match s.tmps[k]? with
  |some (.one (.p (.raw (.bool b))))=>if b=c then cW P items ow ⟨i,d,op,none⟩ s else some (s.put d .undef)
  |some (.tup [])=>some (s.put d .undef)
  |_=>none:=rfl
theorem sH {op:Op} (h:oN op=true):cW P items ow ⟨i,d,op,none⟩ s=(jp P s.ev op).map (s.put d):=by
 show dL P items ow i ⟨d, op, 0, "", #[], none⟩ s = _;unfold dL;simp only[h,if_true]
theorem qb {op:Op} (h:oN op=false) (h':xg op=true):cW P items ow ⟨i,d,op,none⟩ s=(bN P s.ev s.H op).map (s.put d):=by
 show dL P items ow i ⟨d, op, 0, "", #[], none⟩ s = _;unfold dL;simp only[h,h',if_true,Bool.false_eq_true,if_false]
theorem MZ (x:Operand):cW P items ow ⟨i,d,.move x,none⟩ s=(s.ev x).map (s.put d):=sH rfl
theorem E9 (x:Operand):cW P items ow ⟨i,d,.assign x,none⟩ s=(s.ev x).map (s.put d):=sH rfl
theorem M0 (c a b:Operand):cW P items ow ⟨i,d,.pick c a b,none⟩ s=(jp P s.ev (.pick c a b)).map (s.put d):=sH rfl
theorem Qu (op:BinOp) (t b:TypeId) (x y:Operand):cW P items ow ⟨i,d,.binOp op t x y b,none⟩ s=(jp P s.ev (.binOp op t x y b)).map (s.put d):=sH rfl
theorem Uc (op:UnOp) (t:TypeId) (x:Operand):cW P items ow ⟨i,d,.unOp op t x,none⟩ s=(jp P s.ev (.unOp op t x)).map (s.put d):=sH rfl
theorem MX (t b:TypeId) (x:Operand):cW P items ow ⟨i,d,.convert t b x,none⟩ s=(jp P s.ev (.convert t b x)).map (s.put d):=sH rfl
theorem CK (x:Operand) (k:Nat):cW P items ow ⟨i,d,.extract x k,none⟩ s=(jp P s.ev (.extract x k)).map (s.put d):=sH rfl
theorem MY (t:TypeId) (x:Operand):cW P items ow ⟨i,d,.load t x,none⟩ s=(bN P s.ev s.H (.load t x)).map (s.put d):=qb rfl rfl
theorem xn (t:TypeId) (x y:Operand):cW P items ow ⟨i,d,.indexAddr t x y,none⟩ s=(bN P s.ev s.H (.indexAddr t x y)).map (s.put d):=qb rfl rfl
theorem xm (t:TypeId) (x:Operand) (f:Nat):cW P items ow ⟨i,d,.fieldAddr t x f,none⟩ s=(bN P s.ev s.H (.fieldAddr t x f)).map (s.put d):=qb rfl rfl
theorem Jy (t:TypeId) (x:Operand) (f:Nat):cW P items ow ⟨i,d,.field t x f,none⟩ s=(bN P s.ev s.H (.field t x f)).map (s.put d):=qb rfl rfl
theorem Jz (t:TypeId) (x:Operand) (c b e:Option Operand):cW P items ow ⟨i,d,.slice t x c b e,none⟩ s=(bN P s.ev s.H (.slice t x c b e)).map (s.put d):=qb rfl rfl
theorem Jw (t:TypeId) (b:Array (Nat×Operand)):cW P items ow ⟨i,d,.build t b,none⟩ s=(bN P s.ev s.H (.build t b)).map (s.put d):=qb rfl rfl
theorem Ag (x:Operand):cW P items ow ⟨i,d,.nilCheck x,none⟩ s=(bN P s.ev s.H (.nilCheck x)).map (s.put d):=qb rfl rfl
theorem Af (f:Fn) (b c:Array Operand):cW P items ow ⟨i,d,.makeFunc f b c,none⟩ s=(bN P s.ev s.H (.makeFunc f b c)).map (s.put d):=qb rfl rfl
theorem Qx (x y:Operand) (c:Array TypeId):cW P items ow ⟨i,d,.call {callee:= .builtin .min,args:= #[x,y],argTypes:=c},none⟩ s=(OU (fun a b=>if b<a then b else a) [s.ev x,s.ev y]).map (s.put d):=sH rfl
theorem Qw (c:Array Operand) (b:Array TypeId):cW P items ow ⟨i,d,.call {callee:= .builtin .len,args:=c,argTypes:=b},none⟩ s=(bN P s.ev s.H (.call {callee:= .builtin .len,args:=c,argTypes:=b})).map (s.put d):=qb rfl rfl
def xl (d:Nat) (s:AS):Option (TV×List OObj)->Option AS
 |some (t,[])=>some (s.put (some d) t)
 |some (t,o::l)=>(match s.H d with|[]=>some (AS.put ⟨s.tmps,aw s.H d (o::l)⟩ (some d) t)|_=>none)
 |none=>none
theorem vP {op:Op} {d:Nat} (h:oN op=false) (h':xg op=false) (hD:fD P s.ev s.H op=none):cW P items ow ⟨i,some d,op,none⟩ s=xl d s (b8 P items ow i d s.ev s.H op):=by
 show dL P items ow i ⟨some d, op, 0, "", #[], none⟩ s = _;unfold dL xl;simp only[h,h',Bool.false_eq_true,if_false,hD];cases hA:b8 P items ow i d s.ev s.H op with
 |none=>rfl
 |some tF=>
  obtain⟨t,F⟩:=tF;cases F with
  |nil=>rfl
  |cons o l=>simp only[];cases s.H d<;>rfl
theorem Qv {d:Nat} (e:TypeId) (x:Operand):cW P items ow ⟨i,some d,.box e x,none⟩ s=xl d s (b8 P items ow i d s.ev s.H (.box e x)):=vP rfl rfl rfl
theorem Jv {d:Nat} (e:TypeId):cW P items ow ⟨i,some d,.alloc e,none⟩ s=xl d s (b8 P items ow i d s.ev s.H (.alloc e)):=vP rfl rfl rfl
theorem xo {d:Nat} (t:TypeId) (x y:Operand):cW P items ow ⟨i,some d,.makeSlice t x y,none⟩ s=xl d s (b8 P items ow i d s.ev s.H (.makeSlice t x y)):=vP rfl rfl rfl
theorem vQ {d:Nat} (t:TypeId) (n:Nat) (b:Array (Nat×Operand)):cW P items ow ⟨i,some d,.buildSlice t n b,none⟩ s=xl d s (b8 P items ow i d s.ev s.H (.buildSlice t n b)):=vP rfl rfl rfl
theorem MW {d:Nat} (f:FuncId) (c:Array Operand) (b:Array TypeId):cW P items ow ⟨i,some d,.call {callee:= .value (.func f),args:=c,argTypes:=b},none⟩ s=xl d s (b8 P items ow i d s.ev s.H (.call {callee:= .value (.func f),args:=c,argTypes:=b})):=vP rfl rfl rfl
theorem Jx {d:Nat} (k:Tmp) (c:Array Operand) (b:Array TypeId):cW P items ow ⟨i,some d,.call {callee:= .value (.tmp k),args:=c,argTypes:=b},none⟩ s=xl d s (b8 P items ow i d s.ev s.H (.call {callee:= .value (.tmp k),args:=c,argTypes:=b})):=vP rfl rfl rfl
def Wq (d:Option Tmp) (s:AS):Option DJ->Option AS
 |some q=>some (AS.put ⟨s.tmps.map (aM q.k),q.H⟩ d q.t)
 |none=>none
theorem JA (t:TypeId) (x y:Operand):cW P items ow ⟨i,d,.store t x y,none⟩ s=Wq d s (fD P s.ev s.H (.store t x y)):=by
 show dL P items ow i ⟨d, .store t x y, 0, "", #[], none⟩ s = _;unfold dL Wq;simp only[oN,xg,Bool.false_eq_true,if_false];cases hq:fD P s.ev s.H (.store t x y)with
 |some q=>rfl
 |none=>
  cases d with
  |none=>rfl
  |some d=>simp only[b8]
def Vy (d:Nat) (s:AS) (q:Option DJ) (r:Option (TV×List OObj)):Option AS:=match q with
 |some q=>Wq (some d) s (some q)
 |none=>xl d s r
theorem E8 {d:Nat} (xs:Array Operand) (ts:Array TypeId):cW P items ow ⟨i,some d,.call {callee:= .builtin .append,args:=xs,argTypes:=ts},none⟩ s=
  Vy d s (fD P s.ev s.H (.call {callee:= .builtin .append,args:=xs,argTypes:=ts})) (b8 P items ow i d s.ev s.H (.call {callee:= .builtin .append,args:=xs,argTypes:=ts})):=by
 cases hq:fD P s.ev s.H (.call {callee:= .builtin .append,args:=xs,argTypes:=ts})with
 |some q=>
  show dL P items ow i ⟨some d, .call { callee := .builtin .append, args := xs, argTypes := ts }, 0, "", #[], none⟩ s = _;unfold dL;simp only[oN,TU,xg,Bool.false_eq_true,if_false,hq];rfl
 |none=>exact vP rfl rfl hq
end
end
section
def Hm:List (Nat×List OObj)->OH
 |[],_=>[]
 |(k,F)::l,a=>if a=k then F else Hm l a
def SV (H:OH):List (Nat×List OObj)->Prop
 |[]=>True
 |(k,F)::l=>H k=F/\SV H l
def CJ (b:List Nat):AV->Bool
 | .sl a _ _ _=>b.contains a
 | .ptr a _ _ _=>b.contains a
 | .fn _ a _=>b.contains a
 |_=>true
def Qt (b:List Nat):TV->Bool
 | .one x=>CJ b x
 | .agg c=>c.all (CJ b)
 | .fn _ c=>c.all (CJ b)
 | .tup e=>e.all fun t=>t.2.all (CJ b)
def SL (b:List Nat):List TV->List TV->Prop
 |[],[]=>True
 |x::c,y::e=>(y= .one .junk\/(y=x/\Qt b y=true))/\SL b c e
 |_,_=>False
section
variable {P:Program} {w0 w w':World} {O X:Nat->Prop} {ρ:Rho} {H:OH}
theorem F8 {H:OH}: ∀{l:List (Nat×List OObj)},SV H l-> ∀a,((l.map (·.1)).contains a=true->Hm l a=H a)/\((l.map (·.1)).contains a=false->Hm l a=[])
 |[],_,a=>⟨fun h=>by simp at h,fun _=>rfl⟩
 |(k,F)::l,h,a=>by
  obtain⟨f,g⟩:=h;obtain⟨c,e⟩:=F8 g a;by_cases b:a=k
  ·subst b;exact⟨fun _=>by simp[Hm,f],fun h=>by simp at h⟩
  refine⟨fun h=>?_,fun h=>?_⟩
  ·simp only[Hm,b,if_false];apply c;simpa[b] using h
  simp only[Hm,b,if_false];apply e;simpa[b] using h
theorem AW {e:List Nat}: ∀{l m:List TV},SL e l m->m.length=l.length/\ ∀(t:Nat) y,m[t]?=some y->y= .one .junk\/(l[t]?=some y/\Qt e y=true)
 |[],[],_=>⟨rfl,fun t y h=>by simp at h⟩
 |x::o,y::p,h=>by
  obtain⟨b,j⟩:=h;obtain⟨f,g⟩:=AW j;refine⟨by simp[f],fun t z c=>?_⟩;cases t with
  |succ t=>simp at c⊢;exact g t z c
  |zero=>
   simp at c;subst c;rcases b with b|⟨b,n⟩
   ·exact .inl b
   exact .inr ⟨by simp[b],n⟩
 |[],y::p,h=>h.elim
 |x::o,[],h=>h.elim
theorem Rj {u:OH} {y:Nat->Prop} (s: ∀a,b.contains a=true->u a=H a) (B: ∀e,y e->h e) {x:AV} {v:Value} (t:CJ b x=true) (g:x.rel ρ H h w v):x.rel ρ u y w v:=by
 cases x with
 |p x=>exact bO.weaken (fun e _ C=>B e C) g
 |sl a r E len=>
  obtain⟨o,l,m⟩:=g;exact⟨o,by rw[s a t];exact l,m⟩
 |ptr a r i j=>
  obtain⟨o,e,c,l,m⟩:=g;exact⟨o,e,c,by rw[s a t];exact l,m⟩
 |fn f a F=>
  obtain⟨vs,l,m,z,A⟩:=g;exact⟨vs,l,m,z,fun n q D=>by rw[s a t];exact A n q D⟩
 |junk=>trivial
theorem aj {tm:List TV} {l:List (Nat×List OObj)} (hl:SV s.H l) (ht:SL (l.map (·.1)) s.tmps tm):bv s ⟨tm,Hm l⟩:=by
 rintro w0 O X a w ⟨T,aa,ρ,g,Y⟩;obtain⟨t1,t2⟩:=AW ht;have W:=fun a=>F8 hl a
 have m: ∀(a r:Nat) o,(Hm l a)[r]?=some o->(l.map (·.1)).contains a=true/\(s.H a)[r]?=some o:=fun a r o q=>by
  cases J:(l.map (·.1)).contains a with
  |false=>rw[(W a).2 J]at q;simp at q
  |true=>rw[(W a).1 J]at q;exact⟨rfl,q⟩
 have U: ∀b,Xo X ρ (Hm l) b->Xo X ρ s.H b:=fun b V=>by
  rcases V with V|⟨x,y,o,n,K,L⟩
  ·exact .inl V
  exact .inr ⟨x,y,o,n,(m x y o K).2,L⟩
 have z: ∀x v,CJ (l.map (·.1)) x=true->AV.rel ρ s.H (Xo X ρ s.H) w x v->AV.rel ρ (Hm l) (Xo X ρ (Hm l)) w x v:=fun x v q h=>Rj (fun a ha=>(W a).1 ha) U q h
 have B: ∀A v,A.all (CJ (l.map (·.1)))=true->bC ρ s.H (Xo X ρ s.H) w A v->bC ρ (Hm l) (Xo X ρ (Hm l)) w A v:=fun A v q h=>by
  simp only[XO]at q;obtain⟨vs,K,L,S⟩:=h;exact⟨vs,K,L,fun j x I=>by obtain⟨u,M,F,N⟩:=S j x I;exact⟨u,M,F,z x u (q x (XH I)) N⟩⟩
 refine⟨T,by simp only;omega,ρ,⟨g.keep,fun a r o q=>?_,fun a r a' r' o o' b c c' q D=>g.inj a r a' r' o o' b c c' (m a r o q).2 (m a' r' o' D).2,fun a r o b c q=>g.old a r o b c (m a r o q).2,g.bar,fun a r o q=>g.self a r o (m a r o q).2⟩,fun t x I=>?_⟩
 ·obtain⟨J,D⟩:=m a r o q;obtain⟨q1,q2,Q⟩:=g.objs a r o D;refine⟨q1,q2,?_⟩;cases hr:ρ a r with
  |none=>rw[hr]at Q;exact Q
  |some bc=>
   obtain⟨b,c⟩:=bc;rw[hr]at Q;obtain⟨cells,p1,p2,p3,p4,p5⟩:=Q;refine⟨cells,p1,p2,p3,p4,fun i e j x he I=>?_⟩;obtain⟨u,M,F,N⟩:=p5 i e j x he I;have E:=g.self a r o D e (XH he) x (XH I);refine⟨u,M,F,z x u ?_ N⟩;cases x with
   |sl y _ _ _=>have E:y=a:=E;subst E;exact J
   |ptr y _ _ _=>have E:y=a:=E;subst E;exact J
   |fn _ y _=>have E:y=a:=E.1;subst E;exact J
   |p y=>rfl
   |junk=>rfl
 rcases t2 t x I with rfl|⟨Z,C⟩
 ·obtain⟨v,hv⟩: ∃v,a.tmps[t]?=some v:=by
   have:t<tm.length:=(XN.1 I).1;exact⟨_,aao (by omega)⟩
  exact⟨v,hv,trivial⟩
 obtain⟨v,v1,R⟩:=Y t x Z;refine⟨v,v1,?_⟩;cases x with
 |one x=>exact z x v C R
 |agg A=>exact B A v C R
 |fn f A=>obtain⟨u,T,h2⟩:=R;exact⟨u,B A u C T,h2⟩
 |tup ts=>
  simp only[Qt,XO]at C;obtain⟨vs,K,L,S⟩:=R;refine⟨vs,K,L,fun j b A hj=>?_⟩;obtain⟨u,M,F⟩:=S j b A hj;have G:=C (b,A) (XH hj);refine⟨u,M,?_⟩;rcases F with⟨F,N⟩|⟨F,y,rfl,u4⟩
  ·exact .inl ⟨F,B A u (by simpa only[XO] using G) N⟩
  exact .inr ⟨F,y,rfl,z y u (G y (by simp)) u4⟩
theorem d6 {k d:Nat} (F:TypeId) (A:Nat) (G:0<A) (L:s.H d=[]) (N:s.tmps[k]?=some (.raw (.slice none 0 0))):bv s ⟨s.tmps.set k (.one (.sl d 0 0 0)),aw s.H d [⟨F,A,[]⟩]⟩:=by
 rintro w0 O X a w ⟨K,I,ρ,f,q⟩;have q:aT X ρ s a w:=q;obtain⟨v,V,W⟩:=q k _ N;have Q:=(aU W).1;subst Q;have D: ∀(r b c:Nat),(fun _=>none:Nat->Option (Nat×Nat)) r=some (b,c)->w.heap.size<=b:=fun r b c h=>by cases h
 have m: ∀x u,AV.rel ρ s.H (Xo X ρ s.H) w x u->AV.rel (newρ ρ d fun _=>none) (aw s.H d [⟨F,A,[]⟩]) (Xo X (newρ ρ d fun _=>none) (aw s.H d [⟨F,A,[]⟩])) w x u:=fun x u h=>iW f (Ext.refl w) L D h
 refine⟨K,by simpa using I,newρ ρ d fun _=>none,⟨f.keep,fun l r o g=>?_,fun l r B S o R b c J g E n p=>?_,fun l r o b c g n=>?_,f.bar,fun l r o g=>?_⟩,fun t x y=>?_⟩
 ·by_cases j:l=d
  ·subst j;simp only[aI]at g;cases r with
   |succ r=>simp at g
   |zero=>simp at g;subst g;exact⟨by simp,G,by rw[newρ_eq]⟩
  simp only[ay j]at g;exact dx (f.objs l r o g) (newρ_ne j r) (fun b c Y=>rfl) m
 ·by_cases j:l=d
  ·subst j;rw[newρ_eq]at n;cases n
  by_cases z:B=d
  ·subst z;rw[newρ_eq]at p;cases p
  rw[newρ_ne j]at n;rw[newρ_ne z]at p;simp only[ay j]at g;simp only[ay z]at E;exact f.inj l r B S o R b c J g E n p
 ·by_cases j:l=d
  ·subst j;rw[newρ_eq]at n;cases n
  rw[newρ_ne j]at n;simp only[ay j]at g;exact f.old l r o b c g n
 ·by_cases j:l=d
  ·subst j;simp only[aI]at g;cases r with
   |succ r=>simp at g
   |zero=>simp at g;subst g;exact fun e M=>by simp at M
  simp only[ay j]at g;exact f.self l r o g
 by_cases C:k=t
 ·subst C;simp only[Yz,if_true]at y;split at y
  ·injection y with y
   subst y;exact⟨_,V,⟨F,A,[]⟩,by show(aw s.H d [⟨F,A,[]⟩] d)[0]?=_;rw[aI];rfl,by simp,.inl ⟨by rw[newρ_eq],rfl,rfl,rfl⟩⟩
  cases y
 simp only[Yy C]at y;obtain⟨u,T,U⟩:=q t x y;exact⟨u,T,TV.rel_map U m⟩
theorem nS {Z:Nat->Prop} {a g len:Nat} {o:OObj} {v:Value} {F:AV->PV} (J:objRel ρ H h w a n o) (T:(H a)[n]?=some o) (q: ∀e∈o.elems,∀x∈e,∀u,x.rel ρ H h w u->bO Z w (F x) u) (G: ∀b c,ρ a n=some (b,c)-> ¬Z b) (f:AV.rel ρ H h w (.sl a n g len) v):bO Z w (.sl (((o.elems.take (g+len)).drop g).map (List.map F))) v:=by
 obtain⟨o',C,g2,R⟩:=f;rw[T]at C;injection C with C
 subst C;obtain⟨V,q2,M⟩:=J;have I:(((o.elems.take (g+len)).drop g).map (List.map F)).length=len:=by simp;omega
 rcases R with⟨E,D,S,go⟩|⟨b,c,cap,E,D,K,_⟩
 ·rw[Y2.1 (I.trans S),D];exact bO.nil _ _
 by_cases y:len=0
 ·rw[Y2.1 (I.trans y),D,y];exact bO.nil _ _
 rw[E]at M;obtain⟨cells,L,p2,p3,p4,U⟩:=M;have z: ∀(i:Nat) e,(((o.elems.take (g+len)).drop g).map (List.map F))[i]?=some e-> ∃p,o.elems[g+i]?=some p/\e=p.map F:=fun i e m=>by
  rw[XK]at m;obtain⟨p,l,rfl⟩:=XI.1 m;rw[Yr,Yl]at l;split at l
  ·exact⟨p,l,rfl⟩
  cases l
 have t: ∀(i:Nat) e (j:Nat) x,(((o.elems.take (g+len)).drop g).map (List.map F))[i]?=some e->e[j]?=some x-> ∃u:Value,cells[(g+i)*o.es+j]?=some u/\bO Z w x u:=fun i e j x m s=>by
  obtain⟨p,l,rfl⟩:=z i e m;rw[XK]at s;obtain⟨Q,A,rfl⟩:=XI.1 s;obtain⟨u,B,N,W⟩:=U _ p j Q l A;exact⟨u,B,q p (XH l) Q (XH A) u W⟩
 rw[D];have:=bO.sl (X:=Z) (w:=w) b (g*o.es) o.es cap (((o.elems.take (g+len)).drop g).map (List.map F)) (fun i j=>(cells[(g+i)*o.es+j]?).getD undef) (G b c E) (XV.1 L).1
  (fun e m=>by
   simp only[XR]at m;obtain⟨p,l,rfl⟩:=m;rw[YB];exact V p (YT (YS l))) (by omega) (by omega)
  (fun i e j x m s=>by
   obtain⟨u,B,_⟩:=t i e j x m s;rw[cell_of_row _ b _ cells o.ty (0,0) L,<- YL,B];rfl)
  (fun i e j x m s=>by
   obtain⟨u,B,N⟩:=t i e j x m s;simp only[B,Y4];exact N)
 rw[I]at this;exact this
def mq (H:OH) (a:Nat):AV->PV
 | .p x=>x
 | .sl _ r b len=>match(H a)[r]? with
  |some o=> .sl (((o.elems.take (b+len)).drop b).map (List.map tX))
  |none=> .raw undef
 |_=> .raw undef
def dD (H:OH) (a:Nat):AV->AV
 | .sl b r c len=>if b=a then(match(H a)[r]? with
  |some o=> .p (.sl (((o.elems.take (c+len)).drop c).map (List.map (mq H a))))
  |none=> .junk)else .sl b r c len
 | .ptr b r i j=>if b=a then .junk else .ptr b r i j
 | .fn f b e=>if b=a then .junk else .fn f b e
 |x=>x
theorem Cy (H:OH) (a:Nat):og (dD H a):=fun f b e=>by
 by_cases h:b=a
 ·exact .inl (if_pos h)
 exact .inr ⟨b,e,if_neg h,rfl,fun n q c=>⟨q,c,if_neg h⟩⟩
def fb (H:OH) (a:Nat):TV->TV
 | .one x=> .one (dD H a x)
 | .agg b=> .agg (b.map (dD H a))
 | .fn f b=> .fn f (b.map (dD H a))
 | .tup c=> .tup (c.map fun t=>(t.1,t.2.map (dD H a)))
def dB (o:OObj):Prop:= ∀e∈o.elems,∀x∈e,isPure x=true
def s9 (H:OH) (a:Nat):Prop:= ∀(r:Nat) o,(H a)[r]?=some o-> ∀e∈o.elems,∀x∈e,isPure x=true\/ ∃f b len c,x= .sl a f b len/\(H a)[f]?=some c/\dB c
theorem bF {s:AS} (a:Nat) (ad:s9 s.H a):bv s ⟨s.tmps.map (fb s.H a),aw s.H a []⟩:=by
 rintro w0 O X aa w ⟨h1,af,ρ,g,Q⟩;have Q:aT X ρ s aa w:=Q;have D: ∀(x y:Nat) o,(aw s.H a [] x)[y]?=some o->x≠a/\(s.H x)[y]?=some o:=fun x y o A=>by
  by_cases B:x=a
  ·subst B;rw[aI]at A;simp at A
  rw[ay B]at A;exact⟨B,A⟩
 have S: ∀b,Xo X ρ (aw s.H a []) b->Xo X ρ s.H b:=fun b C=>by
  rcases C with C|⟨x,y,o,n,m,F⟩
  ·exact .inl C
  exact .inr ⟨x,y,o,n,(D x y o m).2,F⟩
 have T: ∀(r:Nat) o,(s.H a)[r]?=some o-> ∀b c,ρ a r=some (b,c)-> ¬Xo X ρ (aw s.H a []) b:=fun r o A b c U hX=>by
  rcases hX with hX|⟨x,y,M,n,m,F⟩
  ·exact(g.old a r o b c A U).2 hX
  obtain⟨B,ac⟩:=D x y M m;exact B (g.inj x y a r M o b n c ac A F U).1
 have I: ∀x u,isPure x=true->AV.rel ρ s.H (Xo X ρ s.H) w x u->bO (Xo X ρ (aw s.H a [])) w (tX x) u:=fun x u hp h=>by
  cases x<;>first|exact bO.weaken (fun b _ C=>S b C) h|cases hp
 have N: ∀(r:Nat) o,(s.H a)[r]?=some o-> ∀e∈o.elems,∀x∈e,∀u,AV.rel ρ s.H (Xo X ρ s.H) w x u->bO (Xo X ρ (aw s.H a [])) w (mq s.H a x) u:=fun r o A e R x B u hu=>by
  rcases ad r o A e R x B with hp|⟨r',ag,len,M,rfl,l,ae⟩
  ·have:=I x u hp hu;cases x<;>first|exact this|cases hp
  simp only[mq,l];exact nS (g.objs a r' M l) l (fun e R y V u hu=>I y u (ae e R y V) hu) (T r' M l) hu
 have E: ∀x v,AV.rel ρ s.H (Xo X ρ s.H) w x v->AV.rel ρ (aw s.H a []) (Xo X ρ (aw s.H a [])) w (dD s.H a x) v:=fP (Cy s.H a) fun x v hn h=>by
  cases x with
  |fn=>cases hn
  |p x=>exact bO.weaken (fun b _ C=>S b C) h
  |sl b r ag len=>
   simp only[dD];by_cases C:b=a
   ·subst C;rw[if_pos rfl];have h':=h;obtain⟨o,m,F,g3⟩:=h;rw[m];exact nS (g.objs b r o m) m (N r o m) (T r o m) h'
   rw[if_neg C];obtain⟨o,m,F⟩:=h;exact⟨o,by rw[ay C];exact m,F⟩
  |ptr b r i j=>
   simp only[dD];by_cases C:b=a
   ·subst C;rw[if_pos rfl];trivial
   rw[if_neg C];obtain⟨o,b',c,m,F⟩:=h;exact⟨o,b',c,by rw[ay C];exact m,F⟩
  |junk=>trivial
 have G: ∀L v,bC ρ s.H (Xo X ρ s.H) w L v->bC ρ (aw s.H a []) (Xo X ρ (aw s.H a [])) w (L.map (dD s.H a)) v:=fun L v h=>by
  obtain⟨vs,m,F,g3⟩:=h;refine⟨vs,m,by simpa using F,fun j x B=>?_⟩;rw[XK]at B;obtain⟨y,V,rfl⟩:=XI.1 B;obtain⟨u,Y,K,Z⟩:=g3 j y V;exact⟨u,Y,K,E y u Z⟩
 refine⟨h1,by simpa using af,ρ,⟨g.keep,fun x y o A=>?_,fun x y x' y' o M b c c' A l=>g.inj x y x' y' o M b c c' (D x y o A).2 (D x' y' M l).2,fun x y o b c A=>g.old x y o b c (D x y o A).2,g.bar,fun x y o A=>g.self x y o (D x y o A).2⟩,fun t x B=>?_⟩
 ·obtain⟨B,l⟩:=D x y o A;obtain⟨q1,q2,q3⟩:=g.objs x y o l;refine⟨q1,q2,?_⟩;cases U:ρ x y with
  |none=>rw[U]at q3;exact q3
  |some bc=>
   obtain⟨b,c⟩:=bc;rw[U]at q3;obtain⟨cells,p1,p2,p3,p4,p5⟩:=q3;refine⟨cells,p1,p2,p3,p4,fun i e j z R hz=>?_⟩;obtain⟨u,Y,K,Z⟩:=p5 i e j z R hz;have J:=g.self x y o l e (XH R) z (XH hz);have:=E z u Z;refine⟨u,Y,K,?_⟩;cases z with
   |sl z _ _ _=>have J:z=x:=J;subst J;simpa[dD,B] using this
   |ptr z _ _ _=>have J:z=x:=J;subst J;simpa[dD,B] using this
   |fn _ z _=>have J:z=x:=J.1;subst J;simpa[dD,B] using this
   |p z=>exact this
   |junk=>trivial
 simp only[XK]at B;obtain⟨y,V,rfl⟩:=XI.1 B;obtain⟨v,v1,v2⟩:=Q t y V;refine⟨v,v1,?_⟩;cases y with
 |one x=>exact E x v v2
 |agg L=>exact G L v v2
 |fn f L=>obtain⟨u,h1,h2⟩:=v2;exact⟨u,G L u h1,h2⟩
 |tup ts=>
  obtain⟨vs,m,F,g3⟩:=v2;refine⟨vs,m,by simpa using F,fun j b L hj=>?_⟩;rw[XK]at hj;obtain⟨z,hz,W⟩:=XI.1 hj;obtain⟨b',ab⟩:=z;simp at W;obtain⟨rfl,rfl⟩:=W;obtain⟨u,Y,K⟩:=g3 j b' ab hz;refine⟨u,Y,?_⟩;rcases K with⟨K,Z⟩|⟨K,q,rfl,u4⟩
  ·exact .inl ⟨K,G _ _ Z⟩
  exact .inr ⟨K,_,rfl,E q u u4⟩
end
end
section
section
variable {P:Program} {s:AS} {Q:Exit->AS->Prop} {x y z:Code}
theorem bj (b:List (an P)) (c:List Nat) {id:Nat} (h: ∀K:AS->Prop,(∀e,bs P y Q e->K e)->aV P (b.map an.a) c (aJ g g.toList 0) (some s) K):bs P (.seq (.region id g false) y) Q s:=
 ai (tl b c (h _ fun _ h=>h))
theorem mF (b:List (an P)) (c:List Nat) {id:Nat} (h: ∀K:AS->Prop,(∀e,Q .normal e->K e)->aV P (b.map an.a) c (aJ g g.toList 0) (some s) K):bs P (.region id g false) Q s:=
 tl b c (h _ fun _ h=>h)
theorem au {y:Code} {id:Nat} (h: ∀K:AS->Prop,(∀b,bs P y Q b->K b)->aV P [] [] (aJ g g.toList 0) (some s) K):bs P (.seq (.region id g false) y) Q s:=bj [] [] h
theorem kP {id:Nat} (h: ∀K:AS->Prop,(∀b,Q .normal b->K b)->aV P [] [] (aJ g g.toList 0) (some s) K):bs P (.region id g false) Q s:=mF [] [] h
theorem Pi {G:Type} (St:G->AS) (b:G->Nat) (e:G) {id:Nat} (f:bv s (St e))
  (round: ∀g,bs P x (iZ (fun h=> ∃c,b c<b g/\bv h (St c)) (lP id (iZ (bs P y Q) Q))) (St g)):bs P (.seq (.block id (.loop x)) y) Q s:=
 ai (am (Bl St b e f round))
theorem aG {G:Type} (St:G->AS) (b:G->Nat) (e:G) {id:Nat} (f:bv s (St e))
  (round: ∀g,bs P x (iZ (fun h=> ∃c,b c<b g/\bv h (St c)) (lP id Q)) (St g)):bs P (.block id (.loop x)) Q s:=
 am (Bl St b e f round)
theorem aP {n:Int} (b: -9223372036854775808<=n) (c:n<=9223372036854775807):IntKind.i64.wrap n=n:=aaz _ (by omega)
theorem cw {n:Int} (b:0<=n) (c:n<18446744073709551616):IntKind.u64.wrap n=n:=by rw[YE];omega
theorem Ib {n:Int} (b:0<=n) (c:n<4294967296):IntKind.u32.wrap n=n:=by rw[Zy];omega
end
end
section
def ls {b:Type} (f:b->List PV) (l:List b):List (List PV):=l.map f
def lc {b:Type} (f:b->List PV) (l:List b):List (List AV):=l.map fun x=>(f x).map AV.p
section
variable {α:Type} {f:α->List PV}
theorem dE (l:List α):(ls f l).length=l.length:=by simp[ls]
theorem lY (l:List α):(lc f l).length=l.length:=by simp[lc]
theorem fh (l:List α) (i:Nat):(ls f l)[i]?=(l[i]?).map f:=by simp[ls]
theorem zQ (l:List α) (i:Nat):(lc f l)[i]?=(l[i]?).map fun x=>(f x).map AV.p:=by simp[lc]
theorem Qb (l:List α) (i:Nat):(ls f l).take i=ls f (l.take i):=by simp[ls]
theorem Qa (l:List α) (i:Nat):(ls f l).drop i=ls f (l.drop i):=by simp[ls]
theorem fQ (l:List α) (i:Nat):(lc f l).take i=lc f (l.take i):=by simp[lc]
theorem zP (l:List α) (i:Nat):(lc f l).drop i=lc f (l.drop i):=by simp[lc]
theorem T0 (l:List α):(ls f l).map (List.map AV.p)=lc f l:=by simp[ls,lc]
theorem Qd (l:List PV):(l.map AV.p).map tX=l:=by rw[Y0];exact(Yc (fun _ _=>rfl)).trans (Z1 l)
theorem nK (l:List α):(lc f l).map (List.map tX)=ls f l:=by
 simp only[ls,lc,Y0];exact Yc fun x _=>Qd (f x)
theorem fL (H:OH) (a:Nat) (l:List α):(lc f l).map (List.map (mq H a))=ls f l:=by
 simp only[ls,lc,Y0];refine Yc fun x _=>?_
 show((f x).map AV.p).map (mq H a)=f x;rw[Y0];exact(Yc (fun _ _=>rfl)).trans (Z1 _)
theorem P6 (l:List α):((lc f l).all fun e=>e.all isPure)=true:=by
 simp[lc,isPure]
theorem Mt (l m:List α):lc f l++lc f m=lc f (l++m):=by simp[lc]
theorem G0 (x:α) (l:List α):ls f (x::l)=f x::ls f l:=rfl
theorem zR:lc f []=[]:=rfl
theorem TZ:ls f []=[]:=rfl
theorem vw (l:List α) (i:Nat) (x:α):(lc f l).set i ((f x).map AV.p)=lc f (l.set i x):=by simp[lc,aaR]
theorem rC (e: ∀x,(f x).length=n) (l:List α):(∀c∈ls f l,c.length=n)=True:=by
 simp only[eq_iff_iff,iff_true];intro c b;obtain⟨x,_,rfl⟩:=XR.1 b;exact e x
theorem Ms (e: ∀x,(f x).length=n) (l:List α):(∀c∈lc f l,c.length=n)=True:=by
 simp only[eq_iff_iff,iff_true];intro c b;obtain⟨x,_,rfl⟩:=XR.1 b;rw[YB];exact e x
theorem tE (k:Nat->Nat->Bool) (l:List α):(lc f l).map (List.map (aL k))=lc f l:=by
 simp only[lc,Y0];refine Yc fun x _=>?_
 show((f x).map AV.p).map (aL k)=_;rw[Y0];exact Yc (fun _ _=>rfl)
theorem jL (d:Nat) (l:List α):(lc f l).map (List.map (b6 d))=lc f l:=by
 simp only[lc,Y0];refine Yc fun x _=>?_
 show((f x).map AV.p).map (b6 d)=_;rw[Y0];exact Yc (fun _ _=>rfl)
theorem Jj (h:0<=x):yl x=some x.toNat:=if_pos h
theorem bi (t:TypeId) (n:Nat) (l:List α):dB ⟨t,n,lc f l⟩:=fun e b x c=>by
 obtain⟨y,_,rfl⟩:=XR.1 b;obtain⟨z,_,rfl⟩:=XR.1 c;rfl
theorem bS {H:OH} {a:Nat} {t:TypeId} {l:List α} (h:H a=[⟨t,n,lc f l⟩]):s9 H a:=fun r o b e c x g=>by
 rw[h]at b;cases r with
 |succ r=>simp at b
 |zero=>simp at b;subst b;exact .inl (bi t n l e c x g)
end
theorem Tb {b:Type} (p:b->Prop):(∀e∈([]:List b),p e)=True:=by simp
theorem Po {b:Type} (p:b->Prop) (x:b) (l:List b):(∀e∈x::l,p e)=(p x/\ ∀e∈l,p e):=by simp
theorem XA [Decidable m] (h:m) {e:Type} (a b:e):(if m then a else b)=a:=if_pos h
theorem Xz [Decidable m] (h: ¬m) {e:Type} (a b:e):(if m then a else b)=b:=if_neg h
theorem WI [Decidable m] (h:m):decide m=true:=decide_eq_true h
theorem WH [Decidable m] (h: ¬m):decide m=false:=decide_eq_false h
def fU (n:Nat):List PV:=[.raw (.int .u32 (n:Int))]
theorem zF (n:Nat):(fU n).length=1:=rfl
def fI (z:Int):List PV:=[.raw (.int .i64 z)]
theorem LX (n:Int):(fI n).length=1:=rfl
def fN (z:Nat):List PV:=[.raw (.int .i64 (z:Int))]
theorem vM {d:Nat} (h:noRefTV j=true):selfTV d j/\renTV 0 j=j:=by
 have c: ∀x,eR x=true->bz d x/\b6 0 x=x:=fun x b=>by cases x<;>first|exact⟨trivial,rfl⟩|cases b
 cases j with
 |one x=>exact⟨(c x h).1,by simp only[renTV,(c x h).2]⟩
 |agg g=>
  simp only[noRefTV,XO]at h;exact⟨fun x b=>(c x (h x b)).1,by simp only[renTV];congr 1;exact(Yc fun x b=>(c x (h x b)).2).trans (Z1 _)⟩
 |fn f g=>
  simp only[noRefTV,XO]at h;exact⟨fun x b=>(c x (h x b)).1,by simp only[renTV];congr 1;exact(Yc fun x b=>(c x (h x b)).2).trans (Z1 _)⟩
 |tup l=>
  simp only[noRefTV,XO]at h;refine⟨fun j e x b=>(c x (h j e x b)).1,?_⟩;simp only[renTV]
  congr 1
  refine(Yc fun j e=>?_).trans (Z1 _);show(j.1,j.2.map (b6 0))=j;rw[(Yc fun x b=>(c x (h j e x b)).2).trans (Z1 j.2)]
theorem iR (l:List Nat) (a:Nat):lc fU l++[[AV.p (.raw (.int .u32 (a:Int)))]]=lc fU (l++[a]):=by simp[lc,fU]
theorem vu (l:List Int) (a:Int):lc fI l++[[AV.p (.raw (.int .i64 a))]]=lc fI (l++[a]):=by simp[lc,fI]
theorem mX (l:List Nat) (a:Nat):lc fN l++[[AV.p (.raw (.int .i64 (a:Int)))]]=lc fN (l++[a]):=by simp[lc,fN]
theorem lj {d:Nat} (b:s.H d=[]) (h:o7 P s o.results.toList=some j) (c:noRefTV j=true):mB P o ⟨[],j⟩ s:=
 ⟨j,d,h,JR (vM c).1 b,by rw[b];rfl,(vM (d:=0) c).2.symm⟩
theorem jd (d:Nat) (b:s9 s.H d) (h:o7 P ⟨s.tmps.map (fb s.H d),aw s.H d []⟩ o.results.toList=some j) (e:noRefTV j=true): ∃c,bv s c/\mB P o ⟨[],j⟩ c:=
 ⟨_,bF d b,lj (d:=d) (by simp[aw]) h e⟩
theorem b9 (c:s.H 1000=[]) (h:o7 P s o.results.toList=some j) (e:noRefTV j=true): ∃b,bv s b/\mB P o ⟨[],j⟩ b:=
 ⟨_,bv.refl _,lj c h e⟩
end
theorem J4:gH prog 131=some false:=by kernel_rfl
theorem J5:gH prog 133=some true:=by kernel_rfl
theorem J6:gH prog 143=some true:=by kernel_rfl
theorem J7:gH prog 165=some false:=by kernel_rfl
theorem J8:gH prog 180=some true:=by kernel_rfl
theorem J9:gH prog 182=some false:=by kernel_rfl
theorem Kb:gH prog 188=some true:=by kernel_rfl
theorem Kc:gH prog 190=some false:=by kernel_rfl
theorem Rt:gH prog 2=some false:=by kernel_rfl
theorem N9:gH prog 22=some false:=by kernel_rfl
theorem Kd:gH prog 224=some true:=by kernel_rfl
theorem Oc:gH prog 24=some true:=by kernel_rfl
theorem Od:gH prog 26=some false:=by kernel_rfl
theorem Oe:gH prog 28=some false:=by kernel_rfl
theorem Of:gH prog 29=some false:=by kernel_rfl
theorem Ru:gH prog 3=some false:=by kernel_rfl
theorem Og:gH prog 35=some false:=by kernel_rfl
theorem tU:gH prog 4=some false:=by kernel_rfl
theorem Oh:gH prog 42=some false:=by kernel_rfl
theorem Rv:gH prog 5=some false:=by kernel_rfl
theorem qK:gH prog 63=some false:=by kernel_rfl
theorem qL:gH prog 65=some true:=by kernel_rfl
theorem Oi:gH prog 76=some false:=by kernel_rfl
theorem Oj:gH prog 79=some false:=by kernel_rfl
theorem Ok:gH prog 84=some false:=by kernel_rfl
theorem Ol:gH prog 85=some false:=by kernel_rfl
theorem wT:uI prog 3=false:=by kernel_rfl
theorem qM:uI prog 4=true:=by kernel_rfl
theorem Om:IB prog 133=some 16:=by kernel_rfl
theorem On:IB prog 165=some 4:=by kernel_rfl
theorem UP:IB prog 2=some 8:=by kernel_rfl
theorem UQ:IB prog 3=some 8:=by kernel_rfl
theorem Rw:IB prog 35=some 24:=by kernel_rfl
theorem Rx:IB prog 42=some 24:=by kernel_rfl
theorem Ry:IB prog 65=some 32:=by kernel_rfl
theorem Rz:IB prog 85=some 24:=by kernel_rfl
theorem Dk:dw prog 133 0=some (0,2):=by kernel_rfl
theorem Dl:dw prog 133 1=some (1,2):=by kernel_rfl
theorem Dm:dw prog 143 0=some (0,65):=by kernel_rfl
theorem Dn:dw prog 143 1=some (2,65):=by kernel_rfl
theorem Do:dw prog 180 0=some (0,35):=by kernel_rfl
theorem Dp:dw prog 180 1=some (1,26):=by kernel_rfl
theorem Dq:dw prog 188 0=some (0,35):=by kernel_rfl
theorem Dr:dw prog 188 1=some (1,26):=by kernel_rfl
theorem Ds:dw prog 222 0=some (0,2):=by kernel_rfl
theorem Dt:dw prog 222 1=some (1,35):=by kernel_rfl
theorem Du:dw prog 222 2=some (2,26):=by kernel_rfl
theorem Dv:dw prog 222 3=some (3,35):=by kernel_rfl
theorem Dw:dw prog 224 0=some (0,84):=by kernel_rfl
theorem Dx:dw prog 224 1=some (1,85):=by kernel_rfl
theorem FC:dw prog 24 0=some (0,5):=by kernel_rfl
theorem FD:dw prog 24 1=some (1,5):=by kernel_rfl
theorem FE:dw prog 24 2=some (2,22):=by kernel_rfl
theorem mj:dw prog 65 0=some (0,4):=by kernel_rfl
theorem mm:dw prog 65 1=some (1,63):=by kernel_rfl
theorem Ke:xf prog 116=some .u64:=by kernel_rfl
theorem Kf:xf prog 165=some .u32:=by kernel_rfl
theorem RA:xf prog 2=some .i64:=by kernel_rfl
theorem RB:xf prog 3=some .i64:=by kernel_rfl
theorem RC:xf prog 5=some .u8:=by kernel_rfl
theorem Kg:iC prog 104=some [(0,1),(1,1)]:=by kernel_rfl
theorem Kh:iC prog 133=some [(0,1),(1,1)]:=by kernel_rfl
theorem Ki:iC prog 143=some [(0,2),(2,2)]:=by kernel_rfl
theorem Kj:iC prog 180=some [(0,1),(1,1)]:=by kernel_rfl
theorem Kk:iC prog 188=some [(0,1),(1,1)]:=by kernel_rfl
theorem Kl:iC prog 222=some [(0,1),(1,1),(2,1),(3,1)]:=by kernel_rfl
theorem Km:iC prog 224=some [(0,1),(1,1)]:=by kernel_rfl
theorem qO:iC prog 65=some [(0,1),(1,1)]:=by kernel_rfl
theorem FG:di prog 26=some 35:=by kernel_rfl
theorem FH:di prog 28=some 3:=by kernel_rfl
theorem FI:di prog 35=some 2:=by kernel_rfl
theorem FJ:di prog 42=some 85:=by kernel_rfl
theorem mn:di prog 63=some 165:=by kernel_rfl
theorem FK:di prog 76=some 133:=by kernel_rfl
theorem FL:di prog 84=some 42:=by kernel_rfl
theorem FM:di prog 85=some 65:=by kernel_rfl
theorem Oo:gK prog 131=some 1:=by kernel_rfl
theorem Oq:gK prog 133=some 2:=by kernel_rfl
theorem Or:gK prog 143=some 4:=by kernel_rfl
theorem Ot:gK prog 165=some 1:=by kernel_rfl
theorem Ou:gK prog 180=some 2:=by kernel_rfl
theorem Ov:gK prog 182=some 1:=by kernel_rfl
theorem Ow:gK prog 188=some 2:=by kernel_rfl
theorem Ox:gK prog 190=some 1:=by kernel_rfl
theorem UR:gK prog 2=some 1:=by kernel_rfl
theorem RD:gK prog 22=some 1:=by kernel_rfl
theorem Oy:gK prog 224=some 2:=by kernel_rfl
theorem RE:gK prog 24=some 4:=by kernel_rfl
theorem RF:gK prog 26=some 1:=by kernel_rfl
theorem RG:gK prog 28=some 1:=by kernel_rfl
theorem RH:gK prog 29=some 1:=by kernel_rfl
theorem US:gK prog 3=some 1:=by kernel_rfl
theorem RI:gK prog 35=some 1:=by kernel_rfl
theorem AT:gK prog 4=some 1:=by kernel_rfl
theorem RJ:gK prog 42=some 1:=by kernel_rfl
theorem UT:gK prog 5=some 1:=by kernel_rfl
theorem tV:gK prog 63=some 1:=by kernel_rfl
theorem tW:gK prog 65=some 2:=by kernel_rfl
theorem RK:gK prog 76=some 1:=by kernel_rfl
theorem RL:gK prog 79=some 1:=by kernel_rfl
theorem RM:gK prog 84=some 1:=by kernel_rfl
theorem RN:gK prog 85=some 1:=by kernel_rfl
theorem FN:dt prog 104=some [(.slice none 0 0),(.int .i64 0)]:=by kernel_rfl
theorem FO:dt prog 131=some [.nilFunc]:=by kernel_rfl
theorem FP:dt prog 133=some [(.int .i64 0),(.int .i64 0)]:=by kernel_rfl
theorem FQ:dt prog 143=some [(.bool false),(.slice none 0 0),(.bool false),(.slice none 0 0)]:=by kernel_rfl
theorem FR:dt prog 165=some [(.int .u32 0)]:=by kernel_rfl
theorem FS:dt prog 180=some [(.slice none 0 0),(.slice none 0 0)]:=by kernel_rfl
theorem FT:dt prog 182=some [.nilFunc]:=by kernel_rfl
theorem FU:dt prog 188=some [(.slice none 0 0),(.slice none 0 0)]:=by kernel_rfl
theorem FV:dt prog 190=some [.nilFunc]:=by kernel_rfl
theorem Oz:dt prog 2=some [(.int .i64 0)]:=by kernel_rfl
theorem FX:dt prog 222=some [(.int .i64 0),(.slice none 0 0),(.slice none 0 0),(.slice none 0 0)]:=by kernel_rfl
theorem FY:dt prog 224=some [(.slice none 0 0),(.slice none 0 0)]:=by kernel_rfl
theorem Kn:dt prog 26=some [(.slice none 0 0)]:=by kernel_rfl
theorem Ko:dt prog 28=some [(.slice none 0 0)]:=by kernel_rfl
theorem Kp:dt prog 29=some [(.int .i64 0)]:=by kernel_rfl
theorem OA:dt prog 3=some [(.int .i64 0)]:=by kernel_rfl
theorem Kq:dt prog 35=some [(.slice none 0 0)]:=by kernel_rfl
theorem OC:dt prog 4=some [(.bool false)]:=by kernel_rfl
theorem Kr:dt prog 42=some [(.slice none 0 0)]:=by kernel_rfl
theorem oc:dt prog 65=some [(.bool false),(.slice none 0 0)]:=by kernel_rfl
theorem Ks:dt prog 76=some [(.slice none 0 0)]:=by kernel_rfl
theorem Kt:dt prog 79=some [(.map none)]:=by kernel_rfl
theorem Ku:dt prog 85=some [(.slice none 0 0)]:=by kernel_rfl
theorem ch:prog.follows .mixedOrders=true:=by kernel_rfl
def natV:List Nat->Nat
 |[]=>0
 |a::l=>a+4294967296*natV l
def Lmb (l:List Nat):Prop:= ∀a∈l,a<4294967296
def th (l:List Nat):Prop:=l.getLast?≠some 0
def dn:List Nat->List Nat
 |[]=>[]
 |a::l=>match dn l with
  |[]=>if a=0 then[]else[a]
  |b::m=>a::b::m
theorem iT (x y:List Nat):natV (x++y)=natV x+4294967296^x.length*natV y:=by
 induction x with
 |nil=>simp[natV]
 |cons a l b=>simp[natV,b,Zd,ab5,ZP,aaf,YQ]
theorem fW (h:Lmb b):natV b<4294967296^b.length:=by
 induction b with
 |nil=>simp[natV]
 |cons a b f=>
  have g:=h a YV;have:=f (fun c e=>h c (YR _ e));grind [natV]
theorem Jm (l:List Nat):natV (dn l)=natV l:=by
 induction l with
 |nil=>rfl
 |cons a l b=>
  grind [dn,natV]
theorem N6 (l:List Nat):th (dn l):=by
 induction l with
 |nil=>simp[th,dn]
 |cons a l b=>
  grind [dn,th]
theorem N7 (l:List Nat):(dn l).length<=l.length:=by
 induction l with
 |nil=>simp[dn]
 |cons a l b=>
  grind [dn]
theorem uM {a:Nat} (h:th (a::b)):th b:=by
 grind [th]
theorem sU (h:th b):dn b=b:=by
 induction b with
 |nil=>rfl
 |cons a b c=>
  grind [dn,th]
theorem nw (l:List Nat):dn (l++[0])=dn l:=by
 induction l with
 |nil=>simp[dn]
 |cons a l b=>grind [dn]
theorem yU {a:Nat} (h:a≠0):dn (b++[a])=b++[a]:=sU (by simp[th,h])
theorem N8 (h:Lmb b):Lmb (dn b):=by
 induction b with
 |nil=>exact h
 |cons a b g=>
  have g:=g (fun e f=>h e (YR _ f));unfold dn;split
  ·split
   ·grind
   intro e f;simp at f;subst f;exact h _ YV
  rename_i e m n;rw[n]at g;intro c j;rcases Yo.1 j with rfl|j
  ·exact h _ YV
  exact g c j
theorem zw (h:th b) (e:b≠[]):4294967296^(b.length-1)<=natV b:=by
 induction b with
 |nil=>grind
 |cons a b f=>
  cases b with
  |nil=>grind [th,natV]
  |cons c m=>
   grind [uM,natV]
theorem Eh {k:Nat} (h:th b) (e:natV b<4294967296^k):b.length<=k:=by
 by_cases c:b=[]
 ·grind
 have:=zw h c;have f:4294967296^(b.length-1)<4294967296^k:=ZB this e;grind [Nat.pow_lt_pow_iff_right]
theorem Pu (o:Lmb b) (p:Lmb c) (j:th b) (n:th c) (h:natV b=natV c):b=c:=by
 induction b generalizing c with
 |nil=>
  cases c with
  |nil=>rfl
  |cons e c=>
   have:=zw n (by simp);grind [natV]
 |cons a b s=>
  cases c with
  |nil=>
   have:=zw j (by simp);grind [natV]
  |cons e c=>
   have t:=o a YV;have u:=p e YV;simp only[natV]at h;have q:a=e:=by omega
   have r:natV b=natV c:=by omega
   rw[q,s (fun f g=>o f (YR _ g)) (fun f g=>p f (YR _ g)) (uM j) (uM n) r]
def fH (neg:Bool) (n:Nat):Int:=if neg then -(n:Int)else n
theorem I4 (a:Int) (w:World):
  Calls prog 224 #[.int .i64 a] w fun e w'=>e= .returned (.bool false)/\w=w':=by
 go_enter func224,ntmps224
 go_wp2
 go_ret
 simp
def oK (a b:Int):Int:=if a<b then -1 else if b<a then 1 else 0
theorem mP (a b:Int) (w:World):
  Calls prog 192 #[.int .i64 a,.int .i64 b] w fun e w'=>e= .returned (.int .i64 (oK a b))/\w=w':=by
 go_enter func192,ntmps192
 go_wp2_with (go_at_call 224;refine(I4 _ _).mono ?_;rintro e w' ⟨rfl,rfl⟩)
 all_goals
  go_ret
  exact⟨fX (by grind [oK]),rfl⟩
def cU:List Int->List Int->Int
 |[],[]=>0
 |[],_::_=> -1
 |_::_,[]=>1
 |a::x,b::y=>if a<b then -1 else if b<a then 1 else cU x y
theorem xR {k:Nat} {a:Int} (h:e[k]?=some a) (j:f[k]?=some x):
  cU (e.drop k) (f.drop k)=if a<x then -1 else if x<a then 1 else cU (e.drop (k+1)) (f.drop (k+1)):=by
 obtain⟨c,rfl⟩:=XN.1 h;obtain⟨g,rfl⟩:=XN.1 j;rw[Y6 c,Y6 g];rfl
theorem xS {k:Nat} (b:k>=e.length) (c:k<f.length):cU (e.drop k) (f.drop k)= -1:=by
 rw[ZN b,Y6 c];rfl
theorem uR {k:Nat} (b:k<e.length) (c:k>=f.length):cU (e.drop k) (f.drop k)=1:=by
 rw[ZN c,Y6 b];rfl
theorem xQ {k:Nat} (b:k>=e.length) (c:k>=f.length):cU (e.drop k) (f.drop k)=0:=by
 rw[ZN b,ZN c];rfl
theorem Px {a:Int} (h:(oK a x !=0)=true):oK a x=if a<x then -1 else if x<a then 1 else y:=by
 grind [oK]
theorem Pw {a:Int} (h:(oK a x !=0)=false):(if a<x then -1 else if x<a then 1 else y)=y:=by
 grind [oK]
theorem VS {a:Int} (h:(a !=x)=true) (c:a<x): -1=if a<x then -1 else if x<a then 1 else y:=by simp[c]
theorem VR {a:Int} (h:(a !=x)=true) (c: ¬a<x):1=if a<x then -1 else if x<a then 1 else y:=by
 grind
theorem qw (A B:Option Addr) (c d:Nat) (x y:List Int) (w:World) (hx:RdI .i64 w A x) (hy:RdI .i64 w B y) (lx:x.length<=9223372036854775807) (ly:y.length<=9223372036854775807):
  Calls prog 225 #[.slice A x.length c,.slice B y.length d] w fun e w'=>e= .returned (.int .i64 (cU x y))/\w=w':=by
 have HX:=XL hx;have HY:=XL hy;clear hx hy
 go_enter func225,ntmps225
 go_wp2_with fail
 go_loop [11,5,6,7,8] (fun i _ _ _ _=> ∃k:Nat,k<=x.length/\i= .int .i64 k/\Hid (cU (x.drop k) (y.drop k)=cU x y)) (fun i _ _ _ _=>x.length-(intOf i).toNat)
 case atStart=>grind [Lib.hid]
 case round=>
  obtain⟨k,hk,rfl,HR⟩:=hrel;by_cases hlt:k<x.length
  ·obtain⟨a,ha⟩:=getElem?_of_lt hlt;obtain⟨b,off,rfl,hc⟩:=HX.out.at_ ha;have HA:=XL ha;clear ha;by_cases hly:k<y.length
   ·obtain⟨a',ha'⟩:=getElem?_of_lt hly;obtain⟨b',off',rfl,hc'⟩:=HY.out.at_ ha';have HA':=XL ha';clear ha';have hD:=XL (xR HA.out HA'.out)
    go_wp2_with (go_at_call 192;refine(mP _ _ _).mono ?_;rintro e w' ⟨rfl,rfl⟩)
    ·go_ret
     have hne:(oK a a' !=0)=true:=by assumption
     exact⟨fX (by rw[<- HR.out,hD.out];exact Px hne),rfl⟩
    go_round
    case rel=>
     have he:(oK a a' !=0)=false:=by assumption
     exact⟨k+1,by omega,by go_num,XL (by rw[<- HR.out,hD.out];simp_all[Pw])⟩
    grind [intOf]
   go_wp2_with fail
   go_ret
   exact⟨fX (by rw[<- HR.out,uR hlt (by omega)]),rfl⟩
  have hk':k=x.length:=by omega
  subst hk'
  go_wp2_with fail
  all_goals
   go_ret
   exact⟨fX (by rw[<- HR.out];grind [xS,xQ]),rfl⟩
theorem ni (A B:Option Addr) (c d:Nat) (x y:List Int) (w:World) (hx:RdI .i64 w A x) (hy:RdI .i64 w B y) (lx:x.length<=9223372036854775807) (ly:y.length<=9223372036854775807):
  Calls prog 21 #[.slice A x.length c,.slice B y.length d] w fun e w'=>e= .returned (.int .i64 (cU x y))/\ ∃n,w'=w.drewN n:=by
 have HX:=XL hx;have HY:=XL hy;clear hx hy
 go_enter func21,ntmps21
 go_wp2_with fail
 go_loopw [5] (fun i wr=> ∃k n:Nat,k<=x.length/\k<=y.length/\i= .int .i64 k/\wr=w.drewN n/\Hid (cU (x.drop k) (y.drop k)=cU x y)) (fun i _=>x.length-(intOf i).toNat)
 case atStart=>exact⟨0,0,Yt _,Yt _,rfl,rfl,XL rfl⟩
 case round=>
  obtain⟨k,n,hk,hky,rfl,rfl,HR⟩:=hrel;by_cases hlt:k<x.length
  ·obtain⟨a,ha⟩:=getElem?_of_lt hlt;obtain⟨b,off,rfl,hc⟩:=HX.out.at_ ha;have HA:=XL ha;clear ha;by_cases hly:k<y.length
   ·obtain⟨a',ha'⟩:=getElem?_of_lt hly;obtain⟨b',off',rfl,hc'⟩:=HY.out.at_ ha';have HA':=XL ha';clear ha';have hD:=XL (xR HA.out HA'.out)
    go_wp2_with fail
    go_quiet (fail)
    go_wp2_with fail
    ·go_quiet (fail)
     have hne:(a !=a')=true:=by assumption
     go_wp2_with fail
     all_goals
      go_ret
      exact⟨fX (by rw[<- HR.out,hD.out];first|exact VS hne (by omega)|exact VR hne (by omega)),_,by rw[World.drewN_drewN,World.drewN_drewN]⟩
    have he:(a !=a')=false:=by assumption
    go_roundw
    case rel=>exact⟨k+1,_,by omega,by omega,by go_num,rfl,XL (by rw[<- HR.out,hD.out];grind)⟩
    grind [intOf]
   go_wp2_with fail
   all_goals
    go_ret
    exact⟨fX (by rw[<- HR.out,uR hlt (by omega)]),_,rfl⟩
  by_cases hly:k<y.length
  ·go_wp2_with fail
   all_goals
    go_ret
    exact⟨fX (by rw[<- HR.out,xS (by omega) (by omega)]),_,rfl⟩
  go_wp2_with fail
  all_goals
   go_ret
   exact⟨fX (by rw[<- HR.out,xQ (by omega) (by omega)]),_,rfl⟩
theorem wV (A B:Option Addr) (c d:Nat) (x y:List Int) (w:World) (hx:RdI .i64 w A x) (hy:RdI .i64 w B y) (lx:x.length<=9223372036854775807) (ly:y.length<=9223372036854775807):
  Calls prog 193 #[.slice A x.length c,.slice B y.length d] w fun e w'=>e= .returned (.int .i64 (cU x y))/\w=w':=by
 go_enter func193,ntmps193
 go_wp2_with (go_at_call 225;refine(qw A B c d x y _ hx hy lx ly).mono ?_;rintro e w' ⟨rfl,rfl⟩)
 go_ret
 simp
def Sv:List Int->Int
 |[]=>0
 |a::l=>if a !=0 then a else Sv l
theorem M4 {k:Nat} {a:Int} (h:e[k]?=some a):Sv (e.drop k)=if a !=0 then a else Sv (e.drop (k+1)):=by
 obtain⟨b,rfl⟩:=XN.1 h;rw[Y6 b];rfl
theorem IH (A:Option Addr) (c:Nat) (x:List Int) (w:World) (hx:RdI .i64 w A x) (lx:x.length<=9223372036854775807):
  Calls prog 191 #[.slice A x.length c] w fun e w'=>e= .returned (.int .i64 (Sv x))/\w=w':=by
 have HX:=XL hx;clear hx
 go_enter func191,ntmps191
 go_wp2_with fail
 go_loop [8,5] (fun i _=> ∃k:Nat,k<=x.length/\i= .int .i64 k/\Hid (Sv (x.drop k)=Sv x)) (fun i _=>x.length-(intOf i).toNat)
 case atStart=>grind [Lib.hid]
 case round=>
  obtain⟨k,hk,rfl,HR⟩:=hrel;by_cases hlt:k<x.length
  ·obtain⟨a,ha⟩:=getElem?_of_lt hlt;obtain⟨b,off,rfl,hc⟩:=HX.out.at_ ha;have HA:=XL (M4 ha);clear ha;by_cases h0:(a !=0)=true
   ·go_wp2_with fail
    go_ret
    exact⟨fX (by rw[<- HR.out,HA.out,if_pos h0]),rfl⟩
   have h0':(a !=0)=false:=by grind
   have H0:=XL h0';clear h0
   go_wp2_with fail
   go_round
   case rel=>exact⟨k+1,by omega,by go_num,XL (by rw[<- HR.out,HA.out,if_neg (by grind)])⟩
   grind [intOf]
  go_wp2_with fail
  go_ret
  exact⟨fX (by rw[<- HR.out,ZN (by omega)];rfl),rfl⟩
theorem sZ (a b:Int) (w:World):
  Calls prog 192 #[.int .i64 a,.int .i64 b] w fun e g=>e= .returned (.int .i64 (oK a b))/\g=w:=
 (mP a b w).mono fun _ _ ⟨c,f⟩=>⟨c,f.symm⟩
theorem tf (A B:Option Addr) (c d:Nat) (x y:List Int) (w:World) (g:RdI .i64 w A x) (h:RdI .i64 w B y) (j:x.length<=9223372036854775807) (l:y.length<=9223372036854775807):
  Calls prog 193 #[.slice A x.length c,.slice B y.length d] w fun e m=>e= .returned (.int .i64 (cU x y))/\m=w:=
 (wV A B c d x y w g h j l).mono fun _ _ ⟨b,f⟩=>⟨b,f.symm⟩
def IF (b:Int) (x:List Int) (c:Int) (y:List Int):Int:=Sv [oK b c,cU x y]
theorem cq {id:Nat} {Q:Exit->Act->World->Prop} {a:Act} {w:World} {l:List Oper} (n:Nat) (e:P.follows .mixedOrders=true) (c:Region.lexTailB .any l.toArray n=true) (h:wpStill P l.toArray w.drew (fun b=>wpList P l.toArray Q (l.drop n) b w.drew) (l.take n) a):(Code.region id l.toArray true).wp P Q a w:=wp_region_still_tail n e c h
theorem EK (w:World) (b:Array Obj) (o:Obj):(Sort.grow w b).alloc o=Sort.grow w (b.push o):=by
 unfold Sort.grow World.alloc;simp
theorem L7 (w:World) (a b:Obj):((w.alloc a).alloc b).drew=Sort.grow (w.drewN 1) #[a,b]:=by
 rfl
theorem yV (w:World) (a b c d:Value) (t:TypeId):
  ((w.alloc (.cells #[a,b] t)).alloc (.cells #[c,d] t)).drew.cell? ⟨w.heap.size,0,none⟩=some a/\((w.alloc (.cells #[a,b] t)).alloc (.cells #[c,d] t)).drew.cell? ⟨w.heap.size,1,none⟩=some b/\
  ((w.alloc (.cells #[a,b] t)).alloc (.cells #[c,d] t)).drew.cell? ⟨w.heap.size+1,0,none⟩=some c/\((w.alloc (.cells #[a,b] t)).alloc (.cells #[c,d] t)).drew.cell? ⟨w.heap.size+1,1,none⟩=some d/\
  Ext w ((w.alloc (.cells #[a,b] t)).alloc (.cells #[c,d] t)).drew/\ ∃os,((w.alloc (.cells #[a,b] t)).alloc (.cells #[c,d] t)).drew=Sort.grow (w.drewN 1) os:=
 ⟨by go_simp,by go_simp,by go_simp,by go_simp,(((Ext.refl _).alloc _).alloc _).drew,_,L7 w _ _⟩
theorem j8 (k1 k2:Int) (A B:Option Addr) (c d:Nat) (x y:List Int) (w:World) (hx:RdI .i64 w A x) (hy:RdI .i64 w B y) (lx:x.length<=9223372036854775807) (ly:y.length<=9223372036854775807):
  Calls prog 132 #[.agg #[.int .i64 k1,.slice A x.length c],.agg #[.int .i64 k2,.slice B y.length d]] w fun e w'=>
   e= .returned (.int .i64 (IF k1 x k2 y))/\ ∃q os,w'=Sort.grow (w.drewN q) os:=by
 have HX:=XL hx;have HY:=XL hy;clear hx hy
 go_enter func132,ntmps132
 go_wp2_with fail
 obtain⟨c1,c2,c3,c4,he,hg⟩:=yV w (.int .i64 k1) (.slice A x.length c) (.int .i64 k2) (.slice B y.length d) 177;have HE:=XL he;have HG:=XL hg;clear he hg;generalize(w.alloc (.cells #[.int .i64 k1,.slice A x.length c] 177)).alloc (.cells #[.int .i64 k2,.slice B y.length d] 177)=w2 at*
 refine cq 10 (by kernel_rfl) (by kernel_rfl) ?_;simp only[Zk,Z8,Zt,Zs];generalize w2.drew=w3 at*
 iterate 4 still_step
 still_call (sZ _ _ _)
 iterate 4 still_step
 still_call (tf A B c d x y _ (HX.out.ext HE.out) (HY.out.ext HE.out) lx ly)
 refine wpStill_nil ?_;have hor:=IH (some ⟨w3.heap.size,0,none⟩) 2 [oK k1 k2,cU x y] (w3.alloc (.cells #[.int .i64 (oK k1 k2),.int .i64 (cU x y)] 3)) (fun _=>⟨w3.heap.size,0,rfl,fun i v hv=>by
  simp_all⟩) (by simp)
 rw[show[oK k1 k2,cU x y].length=2 from rfl]at hor;have HOR:=XL hor;clear hor
 go_wp2_with fail
 refine HOR.out.mono ?_;rintro e w' ⟨rfl,rfl⟩
 go_wp2_with fail
 go_ret
 obtain⟨os,rfl⟩:=HG.out;exact⟨rfl,1,_,EK _ _ _⟩
theorem Tryz.inU32:(prog.info? 165).map (fun i=>(i.zero,i.size,i.bytes))=some (some (.int .u32 0),1,4):=by kernel_rfl
def sg (z:Int):Int:=if z<0 then -1 else if z=0 then 0 else 1
theorem yW (u:Nat):natV [u%4294967296,u/4294967296]=u:=by grind [natV]
def f7 (a b:Nat):Int:=if a<b then -1 else if a=b then 0 else 1
theorem vE {k a:Nat} (h:b[k]?=some a):natV b=natV (b.take k)+4294967296^k*(a+4294967296*natV (b.drop (k+1))):=by
 grind [List.take_append_drop,iT,List.drop_eq_getElem_cons,natV]
theorem Mv (h:Lmb b) (k:Nat):Lmb (b.take k):=fun a c=>h a (YT c)
theorem ma {k a:Nat} (o:Lmb b) (e:b[k]?=some a) (h:c[k]?=some n) (j:b.drop (k+1)=c.drop (k+1)) (g:a<n):natV b<natV c:=by
 have q:=(XN.1 e).1;rw[vE e,vE h,j];have f:=fW (Mv o k);rw[Y9,aav (by omega)]at f;have p:4294967296^k*(a+1+4294967296*natV (c.drop (k+1)))<=4294967296^k*(n+4294967296*natV (c.drop (k+1))):=XU _ (by omega);grind
theorem iV (e:Lmb b) (f:th c) (h:b.length<c.length):natV b<natV c:=by
 have g:=fW e;have j:=zw f (by grind);have n:4294967296^b.length<=4294967296^(c.length-1):=Yd (by omega) (by omega);omega
theorem nG {a:Nat} (h:a<n):f7 a n= -1:=by simp[f7,h]
theorem tw {a:Nat} (h:n<a):f7 a n=1:=by grind [f7]
theorem xW {k a:Nat} (e:b[k]?=some a) (f:c[k]?=some a) (g:b.drop (k+1)=c.drop (k+1)):b.drop k=c.drop k:=by
 grind [List.drop_eq_getElem_cons]
section
def eP (H:OH):AV->Prop
 | .sl a _ _ _=>H a≠[]
 | .ptr a _ _ _=>H a≠[]
 | .fn _ a b=>H a≠[]/\b≠[]
 |_=>True
def fF (H:OH):TV->Prop
 | .one x=>eP H x
 | .agg b=> ∀x∈b,eP H x
 | .fn _ b=> ∀x∈b,eP H x
 | .tup c=> ∀t∈c,∀x∈t.2,eP H x
def kM (s:AS):Prop:=(∀(t:Nat) x,s.tmps[t]?=some x->fF s.H x)/\ ∀a,∀o∈s.H a,selfO a o
section
variable {P:Program} {s s':AS} {H:OH}
theorem ef {N w:World} {X:Nat->Prop} {a:Act} (b:de N h X s a w):kM s:=by
 obtain⟨_,_,B,q,E⟩:=b;have C: ∀x v,AV.rel B s.H (Xo X B s.H) w x v->eP s.H x:=fun x v c=>by
  cases x with
  |p x=>trivial
  |sl a r K len=>obtain⟨o,e,_⟩:=c;intro m;rw[m]at e;simp at e
  |ptr a r i j=>obtain⟨o,_,_,e,_⟩:=c;intro m;rw[m]at e;simp at e
  |fn f a L=>obtain⟨vs,_,_,F,n⟩:=c;obtain⟨u,_,o,_,_,e,_⟩:=n 0 L[0] (X0 F);exact⟨fun m=>by rw[m]at e;simp at e,ZU F⟩
  |junk=>trivial
 have agg: ∀g v,bC B s.H (Xo X B s.H) w g v-> ∀x∈g,eP s.H x:=fun g v G x c=>by
  obtain⟨vs,_,_,n⟩:=G;obtain⟨k,z,rfl⟩:=YZ c;obtain⟨u,_,_,l⟩:=n k _ (X0 z);exact C _ _ l
 refine⟨fun t x c=>?_,fun a o I=>?_⟩
 ·obtain⟨v,_,A⟩:=E t x c;cases x with
  |one x=>exact C x v A
  |agg g=>exact agg g v A
  |fn f g=>obtain⟨u,e,Q⟩:=A;exact agg g u e
  |tup M=>
   obtain⟨vs,_,_,n⟩:=A;intro t J x c;obtain⟨k,z,rfl⟩:=YZ J;obtain⟨u,_,l⟩:=n k _ _ (X0 z);rcases l with⟨_,l⟩|⟨_,y,D,l⟩
   ·exact agg _ _ l x c
   have D:M[k].2=[y]:=D;rw[D]at c;simp at c;subst c;exact C _ _ l
 obtain⟨k,z,rfl⟩:=YZ I;exact q.self a k _ (X0 z)
theorem dW (h:kM s) {x:Operand} (b:s.ev x=some j):fF s.H j:=by
 cases x with
 |tmp k=>exact h.1 k j b
 |const v=>
  simp only[AS.ev]at b;injection b with b
  subst b;unfold nR;split
  ·split
   ·intro y c;simp only[XR]at c;obtain⟨u,_,rfl⟩:=c;trivial
   trivial
  split<;>trivial
 |global g=>simp only[AS.ev]at b;injection b with b;subst b;trivial
 |func f=>simp only[AS.ev]at b;injection b with b;subst b;trivial
theorem lf (h:kM s) {d:Option Tmp} (e:fF s.H j):kM (s.put d j):=by
 refine⟨fun k x b=>?_,by rw[fj];exact h.2⟩;rw[fj];cases d with
 |none=>exact h.1 k x b
 |some d=>
  simp only[AS.put]at b;by_cases c:d=k
  ·subst c;rw[Yz]at b;simp at b;obtain⟨_,rfl⟩:=b;exact e
  rw[Yy c]at b;exact h.1 k x b
theorem IR (h:kM s) {op:Op} (e:jp P s.ev op=some j):fF s.H j:=by
 cases op<;>simp only[jp]at e<;>try cases e
 case call c=>
  unfold VQ at e;split at e
  ·obtain⟨k,m,a,b,_,rfl⟩:=kZ e;trivial
  ·obtain⟨k,m,a,b,_,rfl⟩:=kZ e;trivial
  cases e
 case move x=>exact dW h e
 case assign x=>exact dW h e
 case pick c a b=>
  split at e
  ·exact dW h e
  ·exact dW h e
  cases e
 case binOp op ty x y yt=>
  split at e
  ·unfold yp at e;split at e
   ·injection e with e;subst e;trivial
   ·injection e with e;subst e;trivial
   cases e
  split at e
  ·obtain⟨v,_,rfl⟩:=XI.1 e;trivial
  ·unfold B9 at e;split at e
   ·split at e
    ·injection e with e;subst e;trivial
    cases e
   ·split at e
    ·injection e with e;subst e;trivial
    cases e
   cases e
  cases e
 case unOp op ty x=>
  split at e
  ·obtain⟨v,_,rfl⟩:=XI.1 e;trivial
  cases e
 case convert a b x=>
  split at e
  ·injection e with e;subst e;trivial
  cases e
 case extract x k=>
  split at e
  ·rename_i o l;have g:=dW h l;split at e
   ·rename_i n f;injection e with e
    subst e;exact g _ (XH f)
   ·rename_i y f;injection e with e
    subst e;exact g _ (XH f) y (by simp)
   cases e
  cases e
theorem nT {t:TypeId} (h:mt P t l=some j) (b: ∀x∈l,eP H x):fF H j:=by
 unfold mt at h;split at h
 ·split at h
  ·injection h with h;subst h;exact fun x c=>b x (YT c)
  cases h
 ·split at h
  ·injection h with h;subst h;exact b _ (by simp)
  cases h
 cases h
theorem zy (h:cellsOf j=some l) (c:fF H j): ∀x∈l,eP H x:=by
 unfold cellsOf at h;split at h
 ·injection h with h;subst h;intro x b;simp at b;subst b;trivial
 ·injection h with h;subst h;intro x b;simp at b;subst b;exact c
 ·injection h with h;subst h;exact c
 cases h
theorem x5 (h:kM s) {r:List (Nat×Nat)}: ∀(parts:List (Nat×Operand)) (j b:List AV),iN r s.ev j parts=some b->(∀x∈j,eP s.H x)-> ∀x∈b,eP s.H x
 |[],j,b,c,l=>by simp only[iN]at c;injection c with c;subst c;exact l
 |(f,x)::g,j,b,c,l=>by
  simp only[iN]at c;split at c
  ·rename_i q n v u p;obtain⟨t,o,m⟩:=X4.1 p;split at c
   ·refine x5 h g _ b c fun y e=>?_
    simp only[YK]at e;rcases e with(e|e)|e
    ·exact l y (YT e)
    ·exact zy m (dW h o) y e
    exact l y (YS e)
   cases c
  cases c
theorem JS (h:kM s) {a i:Nat} {o:OObj} (g:(s.H a)[n]?=some o) (q:o.elems[i]?=some l): ∀x∈l,eP s.H x:=fun x t=>by
 have c:=h.2 a o (XH g) l (XH q) x t;have f:s.H a≠[]:=by intro m;rw[m]at g;simp at g
 cases x with
 |sl b _ _ _=>have c:b=a:=c;subst c;exact f
 |ptr b _ _ _=>have c:b=a:=c;subst c;exact f
 |fn _ b _=>have j:b=a:=c.1;subst j;exact⟨f,c.2⟩
 |p x=>trivial
 |junk=>trivial
theorem IS (h:kM s) {op:Op} (l:bN P s.ev s.H op=some j):fF s.H j:=by
 cases op
 case load ty x=>
  simp only[bN]at l;split at l
  ·exact nT l (fun y p=>by simp only[XR]at p;obtain⟨z,_,rfl⟩:=p;trivial)
  ·split at l
   ·rename_i o E;split at l
    ·rename_i e C;exact nT l (fun y p=>JS h E C y (YS p))
    cases l
   cases l
  cases l
 case indexAddr ty x ix=>
  simp only[bN]at l;split at l
  ·split at l
   ·cases l
   split at l
   ·split at l
    ·split at l
     ·injection l with l;subst l;trivial
     cases l
    cases l
   ·rename_i e a r F len J n;split at l
    ·split at l
     ·injection l with l;subst l;have q:=dW h n;exact q
     cases l
    cases l
   ·split at l
    ·split at l
     ·split at l
      ·injection l with l;subst l;trivial
      cases l
     cases l
    cases l
   ·rename_i n;split at l
    ·split at l
     ·split at l
      ·injection l with l;subst l;have q:=dW h n;exact q
      cases l
     cases l
    cases l
   ·split at l
    ·split at l
     ·split at l
      ·injection l with l;subst l;trivial
      cases l
     cases l
    cases l
   cases l
  cases l
 case index ty x ix=>
  simp only[bN]at l;split at l
  ·split at l
   ·cases l
   split at l
   ·rename_i n;split at l
    ·split at l
     ·exact nT l (fun y p=>dW h n y (YS p))
     cases l
    cases l
   cases l
  cases l
 case fieldAddr ty x f=>
  simp only[bN]at l;split at l
  ·split at l
   ·injection l with l;subst l;trivial
   cases l
  ·rename_i n;split at l
   ·injection l with l;subst l;have q:=dW h n;exact q
   cases l
  cases l
 case field ty x f=>
  simp only[bN]at l;split at l
  ·rename_i n;exact nT l (fun y p=>dW h n y (YS p))
  cases l
 case slice ty x lo hi mx=>
  cases mx with
  |some mx=>
   cases lo with
   |none=>simp only[bN]at l;cases l
   |some lo=>
   cases hi with
   |none=>simp only[bN]at l;cases l
   |some hi=>
   simp only[bN]at l;split at l
   ·rename_i n;split at l
    ·split at l
     ·injection l with l;subst l;have q:=dW h n;exact q
     cases l
    cases l
   cases l
  |none=>
   simp only[bN]at l;split at l
   ·split at l
    ·split at l
     ·injection l with l;subst l;trivial
     cases l
    cases l
   ·rename_i n;split at l
    ·split at l
     ·injection l with l;subst l;have q:=dW h n;exact q
     split at l
     ·injection l with l;subst l;trivial
     cases l
    cases l
   cases l
 case build ty parts=>
  simp only[bN]at l;split at l
  ·split at l
   ·obtain⟨w,u,rfl⟩:=XI.1 l;exact x5 h _ _ _ u (fun y p=>by simp only[XR]at p;obtain⟨z,_,rfl⟩:=p;trivial)
   cases l
  cases l
 case nilCheck x=>
  simp only[bN]at l;split at l
  ·injection l with l;subst l;trivial
  ·rename_i n;injection l with l;subst l;have q:=dW h n;exact q
  cases l
 case makeFunc fn first captured=>
  cases fn with
  |func f=>
   simp only[bN]at l;split at l
   ·obtain⟨w,u,rfl⟩:=XI.1 l;obtain⟨K,v,B⟩:=X4.1 u;intro x n;obtain⟨g,D,rfl⟩:=YZ n;obtain⟨A,I⟩:=(oH B).2 g _ (X0 D);obtain⟨y,L,G⟩:=(bU v).2 g _ A;have q:=dW h G;exact q
   cases l
  |_=>simp only[bN]at l;cases l
 case call c=>
  obtain⟨callee,args,argTypes⟩:=c;cases callee with
  |builtin b=>
   cases b
   case len=>
    simp only[bN]at l;split at l
    ·split at l
     ·injection l with l;subst l;trivial
     ·injection l with l;subst l;trivial
     ·injection l with l;subst l;trivial
     cases l
    cases l
   all_goals (simp only[bN]at l;cases l)
  |value f=>simp only[bN]at l;cases l
  |invoke r m=>simp only[bN]at l;cases l
 all_goals (simp only[bN]at l;cases l)
end
end
end Go.Proofs.YtalmoejhjceflaaGreat
