/-
  Part 6 of a proof (walks and plain facts).
-/
import Derived.Test.YtalmoejhjceflaaGreatR04
import Derived.StillTailTactics
import Derived.Sort.Grow
import Derived.Deep.DeepFit
set_option linter.all false
set_option maxRecDepth 100000
set_option maxHeartbeats 64000000
namespace Go.Proofs.YtalmoejhjceflaaGreat
open Go.RowKit Go.Proofs.Tryz
variable {b c:List Nat} {e f:List Int} {g:Array Oper} {x y:Int} {h:Nat->Prop} {s:AS} {n:Nat} {j:TV} {P:Program} {l:List AV} {m:Prop} {o:Func}
section
structure VK where
 i:Nat
 d:Option Tmp
 op:Op
 g:Option (Tmp×Bool)
def Ec (c:Array Oper) (o:Oper) (i:Nat):VK:=match o.guard with
 |none=>⟨i,o.dst,o.op,none⟩
 |some (g,b)=>match(c[g]?).bind (·.dst)with
  |some d=>⟨i,o.dst,o.op,some (d,b)⟩
  |none=>⟨i,none,.extract (.func 0) 0,none⟩
def aJ (b:Array Oper):List Oper->Nat->List VK
 |[],_=>[]
 |o::l,i=>Ec b o i::aJ b l (i+1)
section
variable (P:Program) (items:List (cB P)) (ow:List Nat)
noncomputable def Zv (i : Nat) (d : Option Tmp) (op : Op) (s : AS) : Option AS := dG P items ow i ⟨d, op, 0, "", #[], none⟩ s
noncomputable def dq:VK->AS->Option AS
 |⟨i,d,op,none⟩,s=>Zv P items ow i d op s
 |⟨i,d,op,some (k,c)⟩,s=>match s.tmps[k]? with
  |some (.one (.p (.raw (.bool b))))=>if b=c then Zv P items ow i d op s else some (s.put d .undef)
  |some (.tup [])=>some (s.put d .undef)
  |_=>none
noncomputable def aT:List VK->Option AS->(AS->Prop)->Prop
 |_,none,_=>False
 |[],some s,Q=>Q s
 |st::l,some s,Q=>aT l (dq P items ow st s) Q
theorem LR (l:List VK) (Q:AS->Prop):aT P items ow l none Q=False:=by cases l<;>rfl
theorem P4 (s:AS) (Q:AS->Prop):aT P items ow [] (some s) Q=Q s:=rfl
theorem At (b:VK) (l:List VK) (s:AS) (Q:AS->Prop):aT P items ow (b::l) (some s) Q=aT P items ow l (dq P items ow b s) Q:=rfl
theorem ww (i : Nat) (o : Oper) (s : AS) : dG P items ow i ⟨o.dst, o.op, 0, "", #[], none⟩ s = dG P items ow i o s := rfl
theorem zt {i:Nat} {o:Oper} {c:AS} (b:dG P items ow i o s=some c):c.tmps.length=s.tmps.length:=by
 unfold dG at b;split at b
 ·obtain⟨t,_,rfl⟩:=u6.1 b;exact fg _ _ _
 split at b
 ·obtain⟨t,_,rfl⟩:=u6.1 b;exact fg _ _ _
 split at b
 ·injection b with b;subst b;rw[fg];simp
 split at b
 ·cases b
 split at b
 ·injection b with b;subst b;exact fg _ _ _
 ·split at b
  ·injection b with b;subst b;rw[fg]
  cases b
 cases b
theorem L6 {o:Oper} {i:Nat} {j:AS} (h:dq P items ow (Ec g o i) s=some j):aS P items ow g i o s=some j/\j.tmps.length=s.tmps.length:=by
 unfold Ec at h;unfold aS;cases m:o.guard with
 |none=>
  rw[m]at h;simp only[dq,Zv,ww]at h;exact⟨h,zt P items ow h⟩
 |some p=>
  obtain⟨c,n⟩:=p;rw[m]at h;simp only at h⊢;cases l:(g[c]?).bind (·.dst)with
  |none=>
   rw[l]at h;cases h
  |some d=>
   rw[l]at h;simp only[dq,Zv,ww]at h;simp only;split at h
   ·rename_i b f;rw[f];simp only;split at h
    ·rename_i e;rw[if_pos e];exact⟨h,zt P items ow h⟩
    rename_i e;rw[if_neg e];exact⟨h,by injection h with h;subst h;exact fg _ _ _⟩
   ·rename_i f;rw[f];exact⟨h,by injection h with h;subst h;exact fg _ _ _⟩
   cases h
theorem aO (b:Array Oper): ∀(l:List Oper) (i:Nat) (s:AS) (Q:AS->Prop),aT P items ow (aJ b l i) (some s) Q-> ∃e,f7 P items ow b (l.zipIdx i) s=some e/\Q e
 |[],i,s,Q,h=>⟨s,rfl,h⟩
 |o::l,i,s,Q,h=>by
  simp only[aJ,At]at h;simp only[abO,f7];cases c:dq P items ow (Ec b o i) s with
  |none=>rw[c,LR]at h;exact h.elim
  |some g=>
   rw[c]at h;obtain⟨f,j⟩:=L6 P items ow c;rw[f];exact aO b l (i+1) g Q h
variable {P}
theorem qy (items:List (ao P)) (ow:List Nat) {id:Nat} {Q:Exit->AS->Prop} (h:aT P (items.map ao.a) ow (aJ g g.toList 0) (some s) (Q .normal)):bo P (.region id g false) Q s:=by
 obtain⟨e,b,c⟩:=aO P (items.map ao.a) ow g g.toList 0 s (Q .normal) h;exact Fq _ (ao.ok items) ow b c
variable {items} {ow}
variable {i:Nat} {d:Option Tmp} {s:AS}
theorem L5 (op:Op) (k:Tmp) (c:Bool):dq P items ow ⟨i,d,op,some (k,c)⟩ s=match s.tmps[k]? with
  |some (.one (.p (.raw (.bool b))))=>if b=c then dq P items ow ⟨i,d,op,none⟩ s else some (s.put d .undef)
  |some (.tup [])=>some (s.put d .undef)
  |_=>none:=rfl
theorem ux {op:Op} (h:nH op=true):dq P items ow ⟨i,d,op,none⟩ s=(i7 P s.ev op).map (s.put d):=by
 show dG P items ow i ⟨d, op, 0, "", #[], none⟩ s = _;unfold dG;simp only[h,if_true]
theorem ru {op:Op} (h:nH op=false) (h':yD op=true):dq P items ow ⟨i,d,op,none⟩ s=(bU P s.ev s.H op).map (s.put d):=by
 show dG P items ow i ⟨d, op, 0, "", #[], none⟩ s = _;unfold dG;simp only[h,h',if_true,Bool.false_eq_true,if_false]
theorem Ps (x:Operand):dq P items ow ⟨i,d,.move x,none⟩ s=(s.ev x).map (s.put d):=ux rfl
theorem GS (x:Operand):dq P items ow ⟨i,d,.assign x,none⟩ s=(s.ev x).map (s.put d):=ux rfl
theorem Pt (c a b:Operand):dq P items ow ⟨i,d,.pick c a b,none⟩ s=(i7 P s.ev (.pick c a b)).map (s.put d):=ux rfl
theorem Tm (op:BinOp) (t b:TypeId) (x y:Operand):dq P items ow ⟨i,d,.binOp op t x y b,none⟩ s=(i7 P s.ev (.binOp op t x y b)).map (s.put d):=ux rfl
theorem W2 (op:UnOp) (t:TypeId) (x:Operand):dq P items ow ⟨i,d,.unOp op t x,none⟩ s=(i7 P s.ev (.unOp op t x)).map (s.put d):=ux rfl
theorem Pq (t b:TypeId) (x:Operand):dq P items ow ⟨i,d,.convert t b x,none⟩ s=(i7 P s.ev (.convert t b x)).map (s.put d):=ux rfl
theorem D7 (x:Operand) (k:Nat):dq P items ow ⟨i,d,.extract x k,none⟩ s=(i7 P s.ev (.extract x k)).map (s.put d):=ux rfl
theorem Pr (t:TypeId) (x:Operand):dq P items ow ⟨i,d,.load t x,none⟩ s=(bU P s.ev s.H (.load t x)).map (s.put d):=ru rfl rfl
theorem yX (t:TypeId) (x y:Operand):dq P items ow ⟨i,d,.indexAddr t x y,none⟩ s=(bU P s.ev s.H (.indexAddr t x y)).map (s.put d):=ru rfl rfl
theorem yW (t:TypeId) (x:Operand) (f:Nat):dq P items ow ⟨i,d,.fieldAddr t x f,none⟩ s=(bU P s.ev s.H (.fieldAddr t x f)).map (s.put d):=ru rfl rfl
theorem Lz (t:TypeId) (x:Operand) (f:Nat):dq P items ow ⟨i,d,.field t x f,none⟩ s=(bU P s.ev s.H (.field t x f)).map (s.put d):=ru rfl rfl
theorem LA (t:TypeId) (x:Operand) (c b e:Option Operand):dq P items ow ⟨i,d,.slice t x c b e,none⟩ s=(bU P s.ev s.H (.slice t x c b e)).map (s.put d):=ru rfl rfl
theorem Lx (t:TypeId) (b:Array (Nat×Operand)):dq P items ow ⟨i,d,.build t b,none⟩ s=(bU P s.ev s.H (.build t b)).map (s.put d):=ru rfl rfl
theorem BK (x:Operand):dq P items ow ⟨i,d,.nilCheck x,none⟩ s=(bU P s.ev s.H (.nilCheck x)).map (s.put d):=ru rfl rfl
theorem BJ (f:Fn) (b c:Array Operand):dq P items ow ⟨i,d,.makeFunc f b c,none⟩ s=(bU P s.ev s.H (.makeFunc f b c)).map (s.put d):=ru rfl rfl
theorem Tp (x y:Operand) (c:Array TypeId):dq P items ow ⟨i,d,.call {callee:= .builtin .min,args:= #[x,y],argTypes:=c},none⟩ s=(RB (fun a b=>if b<a then b else a) [s.ev x,s.ev y]).map (s.put d):=ux rfl
theorem To (c:Array Operand) (b:Array TypeId):dq P items ow ⟨i,d,.call {callee:= .builtin .len,args:=c,argTypes:=b},none⟩ s=(bU P s.ev s.H (.call {callee:= .builtin .len,args:=c,argTypes:=b})).map (s.put d):=ru rfl rfl
def yV (d:Nat) (s:AS):Option (TV×List OObj)->Option AS
 |some (t,[])=>some (s.put (some d) t)
 |some (t,o::l)=>(match s.H d with|[]=>some (AS.put ⟨s.tmps,aw s.H d (o::l)⟩ (some d) t)|_=>none)
 |none=>none
theorem xI {op:Op} {d:Nat} (h:nH op=false) (h':yD op=false) (hD:gn P s.ev s.H op=none):dq P items ow ⟨i,some d,op,none⟩ s=yV d s (b9 P items ow i d s.ev s.H op):=by
 show dG P items ow i ⟨some d, op, 0, "", #[], none⟩ s = _;unfold dG yV;simp only[h,h',Bool.false_eq_true,if_false,hD];cases hA:b9 P items ow i d s.ev s.H op with
 |none=>rfl
 |some tF=>
  obtain⟨t,F⟩:=tF;cases F with
  |nil=>rfl
  |cons o l=>simp only[];cases s.H d<;>rfl
theorem Tn {d:Nat} (e:TypeId) (x:Operand):dq P items ow ⟨i,some d,.box e x,none⟩ s=yV d s (b9 P items ow i d s.ev s.H (.box e x)):=xI rfl rfl rfl
theorem Lw {d:Nat} (e:TypeId):dq P items ow ⟨i,some d,.alloc e,none⟩ s=yV d s (b9 P items ow i d s.ev s.H (.alloc e)):=xI rfl rfl rfl
theorem yY {d:Nat} (t:TypeId) (x y:Operand):dq P items ow ⟨i,some d,.makeSlice t x y,none⟩ s=yV d s (b9 P items ow i d s.ev s.H (.makeSlice t x y)):=xI rfl rfl rfl
theorem xJ {d:Nat} (t:TypeId) (n:Nat) (b:Array (Nat×Operand)):dq P items ow ⟨i,some d,.buildSlice t n b,none⟩ s=yV d s (b9 P items ow i d s.ev s.H (.buildSlice t n b)):=xI rfl rfl rfl
theorem Pp {d:Nat} (f:FuncId) (c:Array Operand) (b:Array TypeId):dq P items ow ⟨i,some d,.call {callee:= .value (.func f),args:=c,argTypes:=b},none⟩ s=yV d s (b9 P items ow i d s.ev s.H (.call {callee:= .value (.func f),args:=c,argTypes:=b})):=xI rfl rfl rfl
theorem Ly {d:Nat} (k:Tmp) (c:Array Operand) (b:Array TypeId):dq P items ow ⟨i,some d,.call {callee:= .value (.tmp k),args:=c,argTypes:=b},none⟩ s=yV d s (b9 P items ow i d s.ev s.H (.call {callee:= .value (.tmp k),args:=c,argTypes:=b})):=xI rfl rfl rfl
def Zx (d:Option Tmp) (s:AS):Option Fh->Option AS
 |some q=>some (AS.put ⟨s.tmps.map (aP q.k),q.H⟩ d q.t)
 |none=>none
theorem LB (t:TypeId) (x y:Operand):dq P items ow ⟨i,d,.store t x y,none⟩ s=Zx d s (gn P s.ev s.H (.store t x y)):=by
 show dG P items ow i ⟨d, .store t x y, 0, "", #[], none⟩ s = _;unfold dG Zx;simp only[nH,yD,Bool.false_eq_true,if_false];cases hq:gn P s.ev s.H (.store t x y)with
 |some q=>rfl
 |none=>
  cases d with
  |none=>rfl
  |some d=>simp only[b9]
def YB (d:Nat) (s:AS) (q:Option Fh) (r:Option (TV×List OObj)):Option AS:=match q with
 |some q=>Zx (some d) s (some q)
 |none=>yV d s r
theorem GR {d:Nat} (xs:Array Operand) (ts:Array TypeId):dq P items ow ⟨i,some d,.call {callee:= .builtin .append,args:=xs,argTypes:=ts},none⟩ s=
  YB d s (gn P s.ev s.H (.call {callee:= .builtin .append,args:=xs,argTypes:=ts})) (b9 P items ow i d s.ev s.H (.call {callee:= .builtin .append,args:=xs,argTypes:=ts})):=by
 cases hq:gn P s.ev s.H (.call {callee:= .builtin .append,args:=xs,argTypes:=ts})with
 |some q=>
  show dG P items ow i ⟨some d, .call { callee := .builtin .append, args := xs, argTypes := ts }, 0, "", #[], none⟩ s = _;unfold dG;simp only[nH,SQ,yD,Bool.false_eq_true,if_false,hq];rfl
 |none=>exact xI rfl rfl hq
end
end
section
def Hm:List (Nat×List OObj)->OH
 |[],_=>[]
 |(k,F)::l,a=>if a=k then F else Hm l a
def VB (H:OH):List (Nat×List OObj)->Prop
 |[]=>True
 |(k,F)::l=>H k=F/\VB H l
def D5 (b:List Nat):AV->Bool
 | .sl a _ _ _=>b.contains a
 | .ptr a _ _ _=>b.contains a
 | .fn _ a _=>b.contains a
 |_=>true
def Tl (b:List Nat):TV->Bool
 | .one x=>D5 b x
 | .agg c=>c.all (D5 b)
 | .fn _ c=>c.all (D5 b)
 | .tup e=>e.all fun t=>t.2.all (D5 b)
def Vr (b:List Nat):List TV->List TV->Prop
 |[],[]=>True
 |x::c,y::e=>(y= .one .junk\/(y=x/\Tl b y=true))/\Vr b c e
 |_,_=>False
section
variable {P:Program} {w0 w w':World} {O X:Nat->Prop} {ρ:Rho} {H:OH}
theorem Io {H:OH}: ∀{l:List (Nat×List OObj)},VB H l-> ∀a,((l.map (·.1)).contains a=true->Hm l a=H a)/\((l.map (·.1)).contains a=false->Hm l a=[])
 |[],_,a=>⟨fun h=>by simp at h,fun _=>rfl⟩
 |(k,F)::l,h,a=>by
  obtain⟨f,g⟩:=h;obtain⟨c,e⟩:=Io g a;by_cases b:a=k
  ·subst b;exact⟨fun _=>by simp[Hm,f],fun h=>by simp at h⟩
  refine⟨fun h=>?_,fun h=>?_⟩
  ·simp only[Hm,b,if_false];apply c;simpa[b] using h
  simp only[Hm,b,if_false];apply e;simpa[b] using h
theorem Cq {e:List Nat}: ∀{l m:List TV},Vr e l m->m.length=l.length/\ ∀(t:Nat) y,m[t]?=some y->y= .one .junk\/(l[t]?=some y/\Tl e y=true)
 |[],[],_=>⟨rfl,fun t y h=>by simp at h⟩
 |x::o,y::p,h=>by
  obtain⟨b,j⟩:=h;obtain⟨f,g⟩:=Cq j;refine⟨by simp[f],fun t z c=>?_⟩;cases t with
  |succ t=>simp at c⊢;exact g t z c
  |zero=>
   simp at c;subst c;rcases b with b|⟨b,n⟩
   ·exact .inl b
   exact .inr ⟨by simp[b],n⟩
 |[],y::p,h=>h.elim
 |x::o,[],h=>h.elim
theorem T8 {u:OH} {y:Nat->Prop} (s: ∀a,b.contains a=true->u a=H a) (B: ∀e,y e->h e) {x:AV} {v:Value} (t:D5 b x=true) (g:x.rel ρ H h w v):x.rel ρ u y w v:=by
 cases x with
 |p x=>exact bQ.weaken (fun e _ C=>B e C) g
 |sl a r E len=>
  obtain⟨o,l,m⟩:=g;exact⟨o,by rw[s a t];exact l,m⟩
 |ptr a r i j=>
  obtain⟨o,e,c,l,m⟩:=g;exact⟨o,e,c,by rw[s a t];exact l,m⟩
 |fn f a F=>
  obtain⟨vs,l,m,z,A⟩:=g;exact⟨vs,l,m,z,fun n q D=>by rw[s a t];exact A n q D⟩
 |junk=>trivial
theorem aj {tm:List TV} {l:List (Nat×List OObj)} (hl:VB s.H l) (ht:Vr (l.map (·.1)) s.tmps tm):bD s ⟨tm,Hm l⟩:=by
 rintro w0 O X a w ⟨T,aa,ρ,g,Y⟩;obtain⟨t1,t2⟩:=Cq ht;have W:=fun a=>Io hl a
 have m: ∀(a r:Nat) o,(Hm l a)[r]?=some o->(l.map (·.1)).contains a=true/\(s.H a)[r]?=some o:=fun a r o q=>by
  cases J:(l.map (·.1)).contains a with
  |false=>rw[(W a).2 J]at q;simp at q
  |true=>rw[(W a).1 J]at q;exact⟨rfl,q⟩
 have U: ∀b,Xo X ρ (Hm l) b->Xo X ρ s.H b:=fun b V=>by
  rcases V with V|⟨x,y,o,n,K,L⟩
  ·exact .inl V
  exact .inr ⟨x,y,o,n,(m x y o K).2,L⟩
 have z: ∀x v,D5 (l.map (·.1)) x=true->AV.rel ρ s.H (Xo X ρ s.H) w x v->AV.rel ρ (Hm l) (Xo X ρ (Hm l)) w x v:=fun x v q h=>T8 (fun a ha=>(W a).1 ha) U q h
 have B: ∀A v,A.all (D5 (l.map (·.1)))=true->bI ρ s.H (Xo X ρ s.H) w A v->bI ρ (Hm l) (Xo X ρ (Hm l)) w A v:=fun A v q h=>by
  simp only[aah]at q;obtain⟨vs,K,L,S⟩:=h;exact⟨vs,K,L,fun j x I=>by obtain⟨u,M,F,N⟩:=S j x I;exact⟨u,M,F,z x u (q x (u5 I)) N⟩⟩
 refine⟨T,by simp only;omega,ρ,⟨g.keep,fun a r o q=>?_,fun a r a' r' o o' b c c' q D=>g.inj a r a' r' o o' b c c' (m a r o q).2 (m a' r' o' D).2,fun a r o b c q=>g.old a r o b c (m a r o q).2,g.bar,fun a r o q=>g.self a r o (m a r o q).2⟩,fun t x I=>?_⟩
 ·obtain⟨J,D⟩:=m a r o q;obtain⟨q1,q2,Q⟩:=g.objs a r o D;refine⟨q1,q2,?_⟩;cases hr:ρ a r with
  |none=>rw[hr]at Q;exact Q
  |some bc=>
   obtain⟨b,c⟩:=bc;rw[hr]at Q;obtain⟨cells,p1,p2,p3,p4,p5⟩:=Q;refine⟨cells,p1,p2,p3,p4,fun i e j x he I=>?_⟩;obtain⟨u,M,F,N⟩:=p5 i e j x he I;have E:=g.self a r o D e (u5 he) x (u5 I);refine⟨u,M,F,z x u ?_ N⟩;cases x with
   |sl y _ _ _=>have E:y=a:=E;subst E;exact J
   |ptr y _ _ _=>have E:y=a:=E;subst E;exact J
   |fn _ y _=>have E:y=a:=E.1;subst E;exact J
   |p y=>rfl
   |junk=>rfl
 rcases t2 t x I with rfl|⟨Z,C⟩
 ·obtain⟨v,hv⟩: ∃v,a.tmps[t]?=some v:=by
   have:t<tm.length:=(aaf.1 I).1;exact⟨_,acZ (by omega)⟩
  exact⟨v,hv,trivial⟩
 obtain⟨v,v1,R⟩:=Y t x Z;refine⟨v,v1,?_⟩;cases x with
 |one x=>exact z x v C R
 |agg A=>exact B A v C R
 |fn f A=>obtain⟨u,T,h2⟩:=R;exact⟨u,B A u C T,h2⟩
 |tup ts=>
  simp only[Tl,aah]at C;obtain⟨vs,K,L,S⟩:=R;refine⟨vs,K,L,fun j b A hj=>?_⟩;obtain⟨u,M,F⟩:=S j b A hj;have G:=C (b,A) (u5 hj);refine⟨u,M,?_⟩;rcases F with⟨F,N⟩|⟨F,y,rfl,u4⟩
  ·exact .inl ⟨F,B A u (by simpa only[aah] using G) N⟩
  exact .inr ⟨F,y,rfl,z y u (G y (by simp)) u4⟩
theorem dB {k d:Nat} (F:TypeId) (A:Nat) (G:0<A) (L:s.H d=[]) (N:s.tmps[k]?=some (.raw (.slice none 0 0))):bD s ⟨s.tmps.set k (.one (.sl d 0 0 0)),aw s.H d [⟨F,A,[]⟩]⟩:=by
 rintro w0 O X a w ⟨K,I,ρ,f,q⟩;have q:aX X ρ s a w:=q;obtain⟨v,V,W⟩:=q k _ N;have Q:=(aV W).1;subst Q;have D: ∀(r b c:Nat),(fun _=>none:Nat->Option (Nat×Nat)) r=some (b,c)->w.heap.size<=b:=fun r b c h=>by cases h
 have m: ∀x u,AV.rel ρ s.H (Xo X ρ s.H) w x u->AV.rel (newρ ρ d fun _=>none) (aw s.H d [⟨F,A,[]⟩]) (Xo X (newρ ρ d fun _=>none) (aw s.H d [⟨F,A,[]⟩])) w x u:=fun x u h=>jH f (Ext.refl w) L D h
 refine⟨K,by simpa using I,newρ ρ d fun _=>none,⟨f.keep,fun l r o g=>?_,fun l r B S o R b c J g E n p=>?_,fun l r o b c g n=>?_,f.bar,fun l r o g=>?_⟩,fun t x y=>?_⟩
 ·by_cases j:l=d
  ·subst j;simp only[aM]at g;cases r with
   |succ r=>simp at g
   |zero=>simp at g;subst g;exact⟨by simp,G,by rw[newρ_eq]⟩
  simp only[aD j]at g;exact dO (f.objs l r o g) (newρ_ne j r) (fun b c Y=>rfl) m
 ·by_cases j:l=d
  ·subst j;rw[newρ_eq]at n;cases n
  by_cases z:B=d
  ·subst z;rw[newρ_eq]at p;cases p
  rw[newρ_ne j]at n;rw[newρ_ne z]at p;simp only[aD j]at g;simp only[aD z]at E;exact f.inj l r B S o R b c J g E n p
 ·by_cases j:l=d
  ·subst j;rw[newρ_eq]at n;cases n
  rw[newρ_ne j]at n;simp only[aD j]at g;exact f.old l r o b c g n
 ·by_cases j:l=d
  ·subst j;simp only[aM]at g;cases r with
   |succ r=>simp at g
   |zero=>simp at g;subst g;exact fun e M=>by simp at M
  simp only[aD j]at g;exact f.self l r o g
 by_cases C:k=t
 ·subst C;simp only[aa7,if_true]at y;split at y
  ·injection y with y
   subst y;exact⟨_,V,⟨F,A,[]⟩,by show(aw s.H d [⟨F,A,[]⟩] d)[0]?=_;rw[aM];rfl,by simp,.inl ⟨by rw[newρ_eq],rfl,rfl,rfl⟩⟩
  cases y
 simp only[aaI C]at y;obtain⟨u,T,U⟩:=q t x y;exact⟨u,T,TV.rel_map U m⟩
theorem oY {Z:Nat->Prop} {a g len:Nat} {o:OObj} {v:Value} {F:AV->PV} (J:objRel ρ H h w a n o) (T:(H a)[n]?=some o) (q: ∀e∈o.elems,∀x∈e,∀u,x.rel ρ H h w u->bQ Z w (F x) u) (G: ∀b c,ρ a n=some (b,c)-> ¬Z b) (f:AV.rel ρ H h w (.sl a n g len) v):bQ Z w (.sl (((o.elems.take (g+len)).drop g).map (List.map F))) v:=by
 obtain⟨o',C,g2,R⟩:=f;rw[T]at C;injection C with C
 subst C;obtain⟨V,q2,M⟩:=J;have I:(((o.elems.take (g+len)).drop g).map (List.map F)).length=len:=by simp;omega
 rcases R with⟨E,D,S,go⟩|⟨b,c,cap,E,D,K,_⟩
 ·rw[abC.1 (I.trans S),D];exact bQ.nil _ _
 by_cases y:len=0
 ·rw[abC.1 (I.trans y),D,y];exact bQ.nil _ _
 rw[E]at M;obtain⟨cells,L,p2,p3,p4,U⟩:=M;have z: ∀(i:Nat) e,(((o.elems.take (g+len)).drop g).map (List.map F))[i]?=some e-> ∃p,o.elems[g+i]?=some p/\e=p.map F:=fun i e m=>by
  rw[u9]at m;obtain⟨p,l,rfl⟩:=u6.1 m;rw[aaN,aaH]at l;split at l
  ·exact⟨p,l,rfl⟩
  cases l
 have t: ∀(i:Nat) e (j:Nat) x,(((o.elems.take (g+len)).drop g).map (List.map F))[i]?=some e->e[j]?=some x-> ∃u:Value,cells[(g+i)*o.es+j]?=some u/\bQ Z w x u:=fun i e j x m s=>by
  obtain⟨p,l,rfl⟩:=z i e m;rw[u9]at s;obtain⟨Q,A,rfl⟩:=u6.1 s;obtain⟨u,B,N,W⟩:=U _ p j Q l A;exact⟨u,B,q p (u5 l) Q (u5 A) u W⟩
 rw[D];have:=bQ.sl (X:=Z) (w:=w) b (g*o.es) o.es cap (((o.elems.take (g+len)).drop g).map (List.map F)) (fun i j=>(cells[(g+i)*o.es+j]?).getD undef) (G b c E) (aan.1 L).1
  (fun e m=>by
   simp only[aai]at m;obtain⟨p,l,rfl⟩:=m;rw[aa0];exact V p (abr (abq l))) (by omega) (by omega)
  (fun i e j x m s=>by
   obtain⟨u,B,_⟩:=t i e j x m s;rw[cell_of_row _ b _ cells o.ty (0,0) L,<- abg,B];rfl)
  (fun i e j x m s=>by
   obtain⟨u,B,N⟩:=t i e j x m s;simp only[B,abh];exact N)
 rw[I]at this;exact this
def nr (H:OH) (a:Nat):AV->PV
 | .p x=>x
 | .sl _ r b len=>match(H a)[r]? with
  |some o=> .sl (((o.elems.take (b+len)).drop b).map (List.map vO))
  |none=> .raw undef
 |_=> .raw undef
def dN (H:OH) (a:Nat):AV->AV
 | .sl b r c len=>if b=a then(match(H a)[r]? with
  |some o=> .p (.sl (((o.elems.take (c+len)).drop c).map (List.map (nr H a))))
  |none=> .junk)else .sl b r c len
 | .ptr b r i j=>if b=a then .junk else .ptr b r i j
 | .fn f b e=>if b=a then .junk else .fn f b e
 |x=>x
theorem DT (H:OH) (a:Nat):pm (dN H a):=fun f b e=>by
 by_cases h:b=a
 ·exact .inl (if_pos h)
 exact .inr ⟨b,e,if_neg h,rfl,fun n q c=>⟨q,c,if_neg h⟩⟩
def fc (H:OH) (a:Nat):TV->TV
 | .one x=> .one (dN H a x)
 | .agg b=> .agg (b.map (dN H a))
 | .fn f b=> .fn f (b.map (dN H a))
 | .tup c=> .tup (c.map fun t=>(t.1,t.2.map (dN H a)))
def dS (o:OObj):Prop:= ∀e∈o.elems,∀x∈e,isPure x=true
def uQ (H:OH) (a:Nat):Prop:= ∀(r:Nat) o,(H a)[r]?=some o-> ∀e∈o.elems,∀x∈e,isPure x=true\/ ∃f b len c,x= .sl a f b len/\(H a)[f]?=some c/\dS c
theorem bH {s:AS} (a:Nat) (ad:uQ s.H a):bD s ⟨s.tmps.map (fc s.H a),aw s.H a []⟩:=by
 rintro w0 O X aa w ⟨h1,af,ρ,g,Q⟩;have Q:aX X ρ s aa w:=Q;have D: ∀(x y:Nat) o,(aw s.H a [] x)[y]?=some o->x≠a/\(s.H x)[y]?=some o:=fun x y o A=>by
  by_cases B:x=a
  ·subst B;rw[aM]at A;simp at A
  rw[aD B]at A;exact⟨B,A⟩
 have S: ∀b,Xo X ρ (aw s.H a []) b->Xo X ρ s.H b:=fun b C=>by
  rcases C with C|⟨x,y,o,n,m,F⟩
  ·exact .inl C
  exact .inr ⟨x,y,o,n,(D x y o m).2,F⟩
 have T: ∀(r:Nat) o,(s.H a)[r]?=some o-> ∀b c,ρ a r=some (b,c)-> ¬Xo X ρ (aw s.H a []) b:=fun r o A b c U hX=>by
  rcases hX with hX|⟨x,y,M,n,m,F⟩
  ·exact(g.old a r o b c A U).2 hX
  obtain⟨B,ac⟩:=D x y M m;exact B (g.inj x y a r M o b n c ac A F U).1
 have I: ∀x u,isPure x=true->AV.rel ρ s.H (Xo X ρ s.H) w x u->bQ (Xo X ρ (aw s.H a [])) w (vO x) u:=fun x u hp h=>by
  cases x<;>first|exact bQ.weaken (fun b _ C=>S b C) h|cases hp
 have N: ∀(r:Nat) o,(s.H a)[r]?=some o-> ∀e∈o.elems,∀x∈e,∀u,AV.rel ρ s.H (Xo X ρ s.H) w x u->bQ (Xo X ρ (aw s.H a [])) w (nr s.H a x) u:=fun r o A e R x B u hu=>by
  rcases ad r o A e R x B with hp|⟨r',ag,len,M,rfl,l,ae⟩
  ·have:=I x u hp hu;cases x<;>first|exact this|cases hp
  simp only[nr,l];exact oY (g.objs a r' M l) l (fun e R y V u hu=>I y u (ae e R y V) hu) (T r' M l) hu
 have E: ∀x v,AV.rel ρ s.H (Xo X ρ s.H) w x v->AV.rel ρ (aw s.H a []) (Xo X ρ (aw s.H a [])) w (dN s.H a x) v:=gk (DT s.H a) fun x v hn h=>by
  cases x with
  |fn=>cases hn
  |p x=>exact bQ.weaken (fun b _ C=>S b C) h
  |sl b r ag len=>
   simp only[dN];by_cases C:b=a
   ·subst C;rw[if_pos rfl];have h':=h;obtain⟨o,m,F,g3⟩:=h;rw[m];exact oY (g.objs b r o m) m (N r o m) (T r o m) h'
   rw[if_neg C];obtain⟨o,m,F⟩:=h;exact⟨o,by rw[aD C];exact m,F⟩
  |ptr b r i j=>
   simp only[dN];by_cases C:b=a
   ·subst C;rw[if_pos rfl];trivial
   rw[if_neg C];obtain⟨o,b',c,m,F⟩:=h;exact⟨o,b',c,by rw[aD C];exact m,F⟩
  |junk=>trivial
 have G: ∀L v,bI ρ s.H (Xo X ρ s.H) w L v->bI ρ (aw s.H a []) (Xo X ρ (aw s.H a [])) w (L.map (dN s.H a)) v:=fun L v h=>by
  obtain⟨vs,m,F,g3⟩:=h;refine⟨vs,m,by simpa using F,fun j x B=>?_⟩;rw[u9]at B;obtain⟨y,V,rfl⟩:=u6.1 B;obtain⟨u,Y,K,Z⟩:=g3 j y V;exact⟨u,Y,K,E y u Z⟩
 refine⟨h1,by simpa using af,ρ,⟨g.keep,fun x y o A=>?_,fun x y x' y' o M b c c' A l=>g.inj x y x' y' o M b c c' (D x y o A).2 (D x' y' M l).2,fun x y o b c A=>g.old x y o b c (D x y o A).2,g.bar,fun x y o A=>g.self x y o (D x y o A).2⟩,fun t x B=>?_⟩
 ·obtain⟨B,l⟩:=D x y o A;obtain⟨q1,q2,q3⟩:=g.objs x y o l;refine⟨q1,q2,?_⟩;cases U:ρ x y with
  |none=>rw[U]at q3;exact q3
  |some bc=>
   obtain⟨b,c⟩:=bc;rw[U]at q3;obtain⟨cells,p1,p2,p3,p4,p5⟩:=q3;refine⟨cells,p1,p2,p3,p4,fun i e j z R hz=>?_⟩;obtain⟨u,Y,K,Z⟩:=p5 i e j z R hz;have J:=g.self x y o l e (u5 R) z (u5 hz);have:=E z u Z;refine⟨u,Y,K,?_⟩;cases z with
   |sl z _ _ _=>have J:z=x:=J;subst J;simpa[dN,B] using this
   |ptr z _ _ _=>have J:z=x:=J;subst J;simpa[dN,B] using this
   |fn _ z _=>have J:z=x:=J.1;subst J;simpa[dN,B] using this
   |p z=>exact this
   |junk=>trivial
 simp only[u9]at B;obtain⟨y,V,rfl⟩:=u6.1 B;obtain⟨v,v1,v2⟩:=Q t y V;refine⟨v,v1,?_⟩;cases y with
 |one x=>exact E x v v2
 |agg L=>exact G L v v2
 |fn f L=>obtain⟨u,h1,h2⟩:=v2;exact⟨u,G L u h1,h2⟩
 |tup ts=>
  obtain⟨vs,m,F,g3⟩:=v2;refine⟨vs,m,by simpa using F,fun j b L hj=>?_⟩;rw[u9]at hj;obtain⟨z,hz,W⟩:=u6.1 hj;obtain⟨b',ab⟩:=z;simp at W;obtain⟨rfl,rfl⟩:=W;obtain⟨u,Y,K⟩:=g3 j b' ab hz;refine⟨u,Y,?_⟩;rcases K with⟨K,Z⟩|⟨K,q,rfl,u4⟩
  ·exact .inl ⟨K,G _ _ Z⟩
  exact .inr ⟨K,_,rfl,E q u u4⟩
end
end
section
section
variable {P:Program} {s:AS} {Q:Exit->AS->Prop} {x y z:Code}
theorem bC (b:List (ao P)) (c:List Nat) {id:Nat} (h: ∀K:AS->Prop,(∀e,bo P y Q e->K e)->aT P (b.map ao.a) c (aJ g g.toList 0) (some s) K):bo P (.seq (.region id g false) y) Q s:=
 ai (qy b c (h _ fun _ h=>h))
theorem nL (b:List (ao P)) (c:List Nat) {id:Nat} (h: ∀K:AS->Prop,(∀e,Q .normal e->K e)->aT P (b.map ao.a) c (aJ g g.toList 0) (some s) K):bo P (.region id g false) Q s:=
 qy b c (h _ fun _ h=>h)
theorem ax {y:Code} {id:Nat} (h: ∀K:AS->Prop,(∀b,bo P y Q b->K b)->aT P [] [] (aJ g g.toList 0) (some s) K):bo P (.seq (.region id g false) y) Q s:=bC [] [] h
theorem lW {id:Nat} (h: ∀K:AS->Prop,(∀b,Q .normal b->K b)->aT P [] [] (aJ g g.toList 0) (some s) K):bo P (.region id g false) Q s:=nL [] [] h
theorem Iu {G:Type} (St:G->AS) (b:G->Nat) (e:G) {id:Nat} (f:bD s (St e))
  (round: ∀g,bo P x (iP (fun h=> ∃c,b c<b g/\bD h (St c)) (mG id (iP (bo P y Q) Q))) (St g)):bo P (.seq (.block id (.loop x)) y) Q s:=
 ai (am (CN St b e f round))
theorem aF {G:Type} (St:G->AS) (b:G->Nat) (e:G) {id:Nat} (f:bD s (St e))
  (round: ∀g,bo P x (iP (fun h=> ∃c,b c<b g/\bD h (St c)) (mG id Q)) (St g)):bo P (.block id (.loop x)) Q s:=
 am (CN St b e f round)
theorem aR {n:Int} (b: -9223372036854775808<=n) (c:n<=9223372036854775807):IntKind.i64.wrap n=n:=ac8 _ (by omega)
theorem co {n:Int} (b:0<=n) (c:n<18446744073709551616):IntKind.u64.wrap n=n:=by rw[abb];omega
theorem J8 {n:Int} (b:0<=n) (c:n<4294967296):IntKind.u32.wrap n=n:=by rw[ab9];omega
end
end
section
def ls {b:Type} (f:b->List PV) (l:List b):List (List PV):=l.map f
def lc {b:Type} (f:b->List PV) (l:List b):List (List AV):=l.map fun x=>(f x).map AV.p
section
variable {α:Type} {f:α->List PV}
theorem dU (l:List α):(ls f l).length=l.length:=by simp[ls]
theorem kC (l:List α):(lc f l).length=l.length:=by simp[lc]
theorem fX (l:List α) (i:Nat):(ls f l)[i]?=(l[i]?).map f:=by simp[ls]
theorem Bu (l:List α) (i:Nat):(lc f l)[i]?=(l[i]?).map fun x=>(f x).map AV.p:=by simp[lc]
theorem S5 (l:List α) (i:Nat):(ls f l).take i=ls f (l.take i):=by simp[ls]
theorem S4 (l:List α) (i:Nat):(ls f l).drop i=ls f (l.drop i):=by simp[ls]
theorem gR (l:List α) (i:Nat):(lc f l).take i=lc f (l.take i):=by simp[lc]
theorem Bt (l:List α) (i:Nat):(lc f l).drop i=lc f (l.drop i):=by simp[lc]
theorem WQ (l:List α):(ls f l).map (List.map AV.p)=lc f l:=by simp[ls,lc]
theorem S7 (l:List PV):(l.map AV.p).map vO=l:=by rw[abn];exact(aaA (fun _ _=>rfl)).trans (ab0 l)
theorem oS (l:List α):(lc f l).map (List.map vO)=ls f l:=by
 simp only[ls,lc,abn];exact aaA fun x _=>S7 (f x)
theorem fT (H:OH) (a:Nat) (l:List α):(lc f l).map (List.map (nr H a))=ls f l:=by
 simp only[ls,lc,abn];refine aaA fun x _=>?_
 show((f x).map AV.p).map (nr H a)=f x;rw[abn];exact(aaA (fun _ _=>rfl)).trans (ab0 _)
theorem Jh (l:List α):((lc f l).all fun e=>e.all isPure)=true:=by
 simp[lc,isPure]
theorem GF (l m:List α):lc f l++lc f m=lc f (l++m):=by simp[lc]
theorem Jj (x:α) (l:List α):ls f (x::l)=f x::ls f l:=rfl
theorem Bv:lc f []=[]:=rfl
theorem WP:ls f []=[]:=rfl
theorem tg (l:List α) (i:Nat) (x:α):(lc f l).set i ((f x).map AV.p)=lc f (l.set i x):=by simp[lc,adr]
theorem kD (e: ∀x,(f x).length=n) (l:List α):(∀c∈ls f l,c.length=n)=True:=by
 simp only[eq_iff_iff,iff_true];intro c b;obtain⟨x,_,rfl⟩:=aai.1 b;exact e x
theorem xu (e: ∀x,(f x).length=n) (l:List α):(∀c∈lc f l,c.length=n)=True:=by
 simp only[eq_iff_iff,iff_true];intro c b;obtain⟨x,_,rfl⟩:=aai.1 b;rw[aa0];exact e x
theorem vo (k:Nat->Nat->Bool) (l:List α):(lc f l).map (List.map (aN k))=lc f l:=by
 simp only[lc,abn];refine aaA fun x _=>?_
 show((f x).map AV.p).map (aN k)=_;rw[abn];exact aaA (fun _ _=>rfl)
theorem iH (d:Nat) (l:List α):(lc f l).map (List.map (bY d))=lc f l:=by
 simp only[lc,abn];refine aaA fun x _=>?_
 show((f x).map AV.p).map (bY d)=_;rw[abn];exact aaA (fun _ _=>rfl)
theorem Ll (h:0<=x):Aa x=some x.toNat:=if_pos h
theorem bF (t:TypeId) (n:Nat) (l:List α):dS ⟨t,n,lc f l⟩:=fun e b x c=>by
 obtain⟨y,_,rfl⟩:=aai.1 b;obtain⟨z,_,rfl⟩:=aai.1 c;rfl
theorem bG {H:OH} {a:Nat} {t:TypeId} {l:List α} (h:H a=[⟨t,n,lc f l⟩]):uQ H a:=fun r o b e c x g=>by
 rw[h]at b;cases r with
 |succ r=>simp at b
 |zero=>simp at b;subst b;exact .inl (bF t n l e c x g)
end
theorem VY {b:Type} (p:b->Prop):(∀e∈([]:List b),p e)=True:=by simp
theorem Sb {b:Type} (p:b->Prop) (x:b) (l:List b):(∀e∈x::l,p e)=(p x/\ ∀e∈l,p e):=by simp
theorem ifT [Decidable m] (h:m) {e:Type} (a b:e):(if m then a else b)=a:=if_pos h
theorem ifF [Decidable m] (h: ¬m) {e:Type} (a b:e):(if m then a else b)=b:=if_neg h
theorem ZP [Decidable m] (h:m):decide m=true:=decide_eq_true h
theorem ZO [Decidable m] (h: ¬m):decide m=false:=decide_eq_false h
def fU (n:Nat):List PV:=[.raw (.int .u32 (n:Int))]
theorem pR (n:Nat):(fU n).length=1:=rfl
def fI (z:Int):List PV:=[.raw (.int .i64 z)]
theorem Gn (n:Int):(fI n).length=1:=rfl
def fN (z:Nat):List PV:=[.raw (.int .i64 (z:Int))]
theorem xF {d:Nat} (h:noRefTV j=true):selfTV d j/\renTV 0 j=j:=by
 have c: ∀x,fJ x=true->bs d x/\bY 0 x=x:=fun x b=>by cases x<;>first|exact⟨trivial,rfl⟩|cases b
 cases j with
 |one x=>exact⟨(c x h).1,by simp only[renTV,(c x h).2]⟩
 |agg g=>
  simp only[noRefTV,aah]at h;exact⟨fun x b=>(c x (h x b)).1,by simp only[renTV];congr 1;exact(aaA fun x b=>(c x (h x b)).2).trans (ab0 _)⟩
 |fn f g=>
  simp only[noRefTV,aah]at h;exact⟨fun x b=>(c x (h x b)).1,by simp only[renTV];congr 1;exact(aaA fun x b=>(c x (h x b)).2).trans (ab0 _)⟩
 |tup l=>
  simp only[noRefTV,aah]at h;refine⟨fun j e x b=>(c x (h j e x b)).1,?_⟩;simp only[renTV]
  congr 1
  refine(aaA fun j e=>?_).trans (ab0 _);show(j.1,j.2.map (bY 0))=j;rw[(aaA fun x b=>(c x (h j e x b)).2).trans (ab0 j.2)]
theorem jD (l:List Nat) (a:Nat):lc fU l++[[AV.p (.raw (.int .u32 (a:Int)))]]=lc fU (l++[a]):=by simp[lc,fU]
theorem xt (l:List Int) (a:Int):lc fI l++[[AV.p (.raw (.int .i64 a))]]=lc fI (l++[a]):=by simp[lc,fI]
theorem oc (l:List Nat) (a:Nat):lc fN l++[[AV.p (.raw (.int .i64 (a:Int)))]]=lc fN (l++[a]):=by simp[lc,fN]
theorem mm {d:Nat} (b:s.H d=[]) (h:pj P s o.results.toList=some j) (c:noRefTV j=true):np P o ⟨[],j⟩ s:=
 ⟨j,d,h,LV (xF c).1 b,by rw[b];rfl,(xF (d:=0) c).2.symm⟩
theorem fF (d:Nat) (b:uQ s.H d) (h:pj P ⟨s.tmps.map (fc s.H d),aw s.H d []⟩ o.results.toList=some j) (e:noRefTV j=true): ∃c,bD s c/\np P o ⟨[],j⟩ c:=
 ⟨_,bH d b,mm (d:=d) (by simp[aw]) h e⟩
theorem cd (c:s.H 1000=[]) (h:pj P s o.results.toList=some j) (e:noRefTV j=true): ∃b,bD s b/\np P o ⟨[],j⟩ b:=
 ⟨_,bD.refl _,mm c h e⟩
end
theorem Mb:gL prog 131=some false:=by kernel_rfl
theorem Mc:gL prog 133=some true:=by kernel_rfl
theorem Md:gL prog 143=some true:=by kernel_rfl
theorem Me:gL prog 165=some false:=by kernel_rfl
theorem Mf:gL prog 180=some true:=by kernel_rfl
theorem Mg:gL prog 182=some false:=by kernel_rfl
theorem Mh:gL prog 188=some true:=by kernel_rfl
theorem Mi:gL prog 190=some false:=by kernel_rfl
theorem Ui:gL prog 2=some false:=by kernel_rfl
theorem QK:gL prog 22=some false:=by kernel_rfl
theorem Mj:gL prog 224=some true:=by kernel_rfl
theorem QL:gL prog 24=some true:=by kernel_rfl
theorem QM:gL prog 26=some false:=by kernel_rfl
theorem QN:gL prog 28=some false:=by kernel_rfl
theorem QO:gL prog 29=some false:=by kernel_rfl
theorem Uj:gL prog 3=some false:=by kernel_rfl
theorem QP:gL prog 35=some false:=by kernel_rfl
theorem vL:gL prog 4=some false:=by kernel_rfl
theorem QQ:gL prog 42=some false:=by kernel_rfl
theorem Uk:gL prog 5=some false:=by kernel_rfl
theorem si:gL prog 63=some false:=by kernel_rfl
theorem sj:gL prog 65=some true:=by kernel_rfl
theorem QR:gL prog 75=some true:=by kernel_rfl
theorem QS:gL prog 76=some false:=by kernel_rfl
theorem QT:gL prog 79=some false:=by kernel_rfl
theorem QU:gL prog 84=some false:=by kernel_rfl
theorem QV:gL prog 85=some false:=by kernel_rfl
theorem QW:gL prog 87=some true:=by kernel_rfl
theorem yy:wF prog 3=false:=by kernel_rfl
theorem sk:wF prog 4=true:=by kernel_rfl
theorem QX:IH prog 133=some 16:=by kernel_rfl
theorem QY:IH prog 165=some 4:=by kernel_rfl
theorem XN:IH prog 2=some 8:=by kernel_rfl
theorem XO:IH prog 3=some 8:=by kernel_rfl
theorem Ul:IH prog 35=some 24:=by kernel_rfl
theorem Um:IH prog 42=some 24:=by kernel_rfl
theorem Un:IH prog 65=some 32:=by kernel_rfl
theorem Uo:IH prog 75=some 32:=by kernel_rfl
theorem Up:IH prog 85=some 24:=by kernel_rfl
theorem EO:dc prog 133 0=some (0,2):=by kernel_rfl
theorem EP:dc prog 133 1=some (1,2):=by kernel_rfl
theorem EQ:dc prog 143 0=some (0,65):=by kernel_rfl
theorem ER:dc prog 143 1=some (2,65):=by kernel_rfl
theorem ES:dc prog 180 0=some (0,35):=by kernel_rfl
theorem ET:dc prog 180 1=some (1,26):=by kernel_rfl
theorem EU:dc prog 188 0=some (0,35):=by kernel_rfl
theorem EV:dc prog 188 1=some (1,26):=by kernel_rfl
theorem EW:dc prog 222 0=some (0,2):=by kernel_rfl
theorem EX:dc prog 222 1=some (1,35):=by kernel_rfl
theorem EY:dc prog 222 2=some (2,26):=by kernel_rfl
theorem EZ:dc prog 222 3=some (3,35):=by kernel_rfl
theorem E3:dc prog 224 0=some (0,84):=by kernel_rfl
theorem E4:dc prog 224 1=some (1,85):=by kernel_rfl
theorem Ho:dc prog 24 0=some (0,5):=by kernel_rfl
theorem Hp:dc prog 24 1=some (1,5):=by kernel_rfl
theorem Hq:dc prog 24 2=some (2,22):=by kernel_rfl
theorem ni:dc prog 65 0=some (0,4):=by kernel_rfl
theorem nj:dc prog 65 1=some (1,63):=by kernel_rfl
theorem Hr:dc prog 75 0=some (0,2):=by kernel_rfl
theorem Hs:dc prog 75 1=some (1,35):=by kernel_rfl
theorem Ht:dc prog 87 0=some (0,3):=by kernel_rfl
theorem Hu:dc prog 87 1=some (1,84):=by kernel_rfl
theorem Hv:dc prog 87 2=some (2,85):=by kernel_rfl
theorem Mk:yQ prog 116=some .u64:=by kernel_rfl
theorem Ml:yQ prog 165=some .u32:=by kernel_rfl
theorem Uq:yQ prog 2=some .i64:=by kernel_rfl
theorem Ur:yQ prog 3=some .i64:=by kernel_rfl
theorem Us:yQ prog 5=some .u8:=by kernel_rfl
theorem Mm:gS prog 104=some [(0,1),(1,1)]:=by kernel_rfl
theorem Mn:gS prog 133=some [(0,1),(1,1)]:=by kernel_rfl
theorem Mo:gS prog 143=some [(0,2),(2,2)]:=by kernel_rfl
theorem Mp:gS prog 180=some [(0,1),(1,1)]:=by kernel_rfl
theorem Mq:gS prog 188=some [(0,1),(1,1)]:=by kernel_rfl
theorem Mr:gS prog 222=some [(0,1),(1,1),(2,1),(3,1)]:=by kernel_rfl
theorem Ms:gS prog 224=some [(0,1),(1,1)]:=by kernel_rfl
theorem sn:gS prog 65=some [(0,1),(1,1)]:=by kernel_rfl
theorem QZ:gS prog 75=some [(0,1),(1,1)]:=by kernel_rfl
theorem Q2:gS prog 87=some [(0,1),(1,1),(2,1)]:=by kernel_rfl
theorem Hw:dw prog 26=some 35:=by kernel_rfl
theorem Hx:dw prog 28=some 3:=by kernel_rfl
theorem Hy:dw prog 35=some 2:=by kernel_rfl
theorem Hz:dw prog 42=some 85:=by kernel_rfl
theorem nk:dw prog 63=some 165:=by kernel_rfl
theorem HJ:dw prog 72=some 75:=by kernel_rfl
theorem HU:dw prog 76=some 133:=by kernel_rfl
theorem HW:dw prog 84=some 42:=by kernel_rfl
theorem H4:dw prog 85=some 65:=by kernel_rfl
theorem Q3:ir prog 131=some 1:=by kernel_rfl
theorem Q4:ir prog 133=some 2:=by kernel_rfl
theorem Q5:ir prog 143=some 4:=by kernel_rfl
theorem Q6:ir prog 165=some 1:=by kernel_rfl
theorem Q7:ir prog 180=some 2:=by kernel_rfl
theorem Q8:ir prog 182=some 1:=by kernel_rfl
theorem Q9:ir prog 188=some 2:=by kernel_rfl
theorem Ra:ir prog 190=some 1:=by kernel_rfl
theorem XP:ir prog 2=some 1:=by kernel_rfl
theorem Ut:ir prog 22=some 1:=by kernel_rfl
theorem Rb:ir prog 224=some 2:=by kernel_rfl
theorem Uu:ir prog 24=some 4:=by kernel_rfl
theorem Uv:ir prog 26=some 1:=by kernel_rfl
theorem Uw:ir prog 28=some 1:=by kernel_rfl
theorem Ux:ir prog 29=some 1:=by kernel_rfl
theorem XQ:ir prog 3=some 1:=by kernel_rfl
theorem Uy:ir prog 35=some 1:=by kernel_rfl
theorem Co:ir prog 4=some 1:=by kernel_rfl
theorem Uz:ir prog 42=some 1:=by kernel_rfl
theorem XR:ir prog 5=some 1:=by kernel_rfl
theorem vM:ir prog 63=some 1:=by kernel_rfl
theorem vN:ir prog 65=some 2:=by kernel_rfl
theorem UA:ir prog 75=some 2:=by kernel_rfl
theorem UB:ir prog 76=some 1:=by kernel_rfl
theorem UC:ir prog 79=some 1:=by kernel_rfl
theorem UD:ir prog 84=some 1:=by kernel_rfl
theorem UE:ir prog 85=some 1:=by kernel_rfl
theorem UF:ir prog 87=some 3:=by kernel_rfl
theorem H5:dy prog 104=some [(.slice none 0 0),(.int .i64 0)]:=by kernel_rfl
theorem H6:dy prog 131=some [.nilFunc]:=by kernel_rfl
theorem H7:dy prog 133=some [(.int .i64 0),(.int .i64 0)]:=by kernel_rfl
theorem H8:dy prog 143=some [(.bool false),(.slice none 0 0),(.bool false),(.slice none 0 0)]:=by kernel_rfl
theorem H9:dy prog 165=some [(.int .u32 0)]:=by kernel_rfl
theorem Ia:dy prog 180=some [(.slice none 0 0),(.slice none 0 0)]:=by kernel_rfl
theorem Ib:dy prog 182=some [.nilFunc]:=by kernel_rfl
theorem Ic:dy prog 188=some [(.slice none 0 0),(.slice none 0 0)]:=by kernel_rfl
theorem Id:dy prog 190=some [.nilFunc]:=by kernel_rfl
theorem Rc:dy prog 2=some [(.int .i64 0)]:=by kernel_rfl
theorem Ie:dy prog 222=some [(.int .i64 0),(.slice none 0 0),(.slice none 0 0),(.slice none 0 0)]:=by kernel_rfl
theorem If:dy prog 224=some [(.slice none 0 0),(.slice none 0 0)]:=by kernel_rfl
theorem Mt:dy prog 26=some [(.slice none 0 0)]:=by kernel_rfl
theorem Mu:dy prog 28=some [(.slice none 0 0)]:=by kernel_rfl
theorem Mv:dy prog 29=some [(.int .i64 0)]:=by kernel_rfl
theorem Re:dy prog 3=some [(.int .i64 0)]:=by kernel_rfl
theorem Mw:dy prog 35=some [(.slice none 0 0)]:=by kernel_rfl
theorem Rg:dy prog 4=some [(.bool false)]:=by kernel_rfl
theorem Mx:dy prog 42=some [(.slice none 0 0)]:=by kernel_rfl
theorem pi:dy prog 65=some [(.bool false),(.slice none 0 0)]:=by kernel_rfl
theorem My:dy prog 75=some [(.int .i64 0),(.slice none 0 0)]:=by kernel_rfl
theorem Mz:dy prog 76=some [(.slice none 0 0)]:=by kernel_rfl
theorem MA:dy prog 79=some [(.map none)]:=by kernel_rfl
theorem MB:dy prog 85=some [(.slice none 0 0)]:=by kernel_rfl
theorem MC:dy prog 87=some [(.int .i64 0),(.slice none 0 0),(.slice none 0 0)]:=by kernel_rfl
theorem cf:prog.follows .mixedOrders=true:=by kernel_rfl
def natV:List Nat->Nat
 |[]=>0
 |a::l=>a+4294967296*natV l
def Lmb (l:List Nat):Prop:= ∀a∈l,a<4294967296
def uW (l:List Nat):Prop:=l.getLast?≠some 0
def cJ:List Nat->List Nat
 |[]=>[]
 |a::l=>match cJ l with
  |[]=>if a=0 then[]else[a]
  |b::m=>a::b::m
theorem jE (x y:List Nat):natV (x++y)=natV x+4294967296^x.length*natV y:=by
 induction x with
 |nil=>simp[natV]
 |cons a l b=>simp[natV,b,aby,aeN,ace,acE,abj]
theorem fH (h:Lmb b):natV b<4294967296^b.length:=by
 induction b with
 |nil=>simp[natV]
 |cons a b f=>
  have g:=h a abt;have:=f (fun c e=>h c (abp _ e));grind [natV]
theorem Lo (l:List Nat):natV (cJ l)=natV l:=by
 induction l with
 |nil=>rfl
 |cons a l b=>
  grind [cJ,natV]
theorem QH (l:List Nat):uW (cJ l):=by
 induction l with
 |nil=>simp[uW,cJ]
 |cons a l b=>
  grind [cJ,uW]
theorem QI (l:List Nat):(cJ l).length<=l.length:=by
 induction l with
 |nil=>simp[cJ]
 |cons a l b=>
  grind [cJ]
theorem wL {a:Nat} (h:uW (a::b)):uW b:=by
 grind [uW]
theorem uI (h:uW b):cJ b=b:=by
 induction b with
 |nil=>rfl
 |cons a b c=>
  grind [cJ,uW]
theorem kJ (l:List Nat):cJ (l++[0])=cJ l:=by
 induction l with
 |nil=>simp[cJ]
 |cons a l b=>grind [cJ]
theorem tO {a:Nat} (h:a≠0):cJ (b++[a])=b++[a]:=uI (by simp[uW,h])
theorem QJ (h:Lmb b):Lmb (cJ b):=by
 induction b with
 |nil=>exact h
 |cons a b g=>
  have g:=g (fun e f=>h e (abp _ f));unfold cJ;split
  ·split
   ·grind
   intro e f;simp at f;subst f;exact h _ abt
  rename_i e m n;rw[n]at g;intro c j;rcases aaV.1 j with rfl|j
  ·exact h _ abt
  exact g c j
theorem A4 (h:uW b) (e:b≠[]):4294967296^(b.length-1)<=natV b:=by
 induction b with
 |nil=>grind
 |cons a b f=>
  cases b with
  |nil=>grind [uW,natV]
  |cons c m=>
   grind [wL,natV]
theorem FV {k:Nat} (h:uW b) (e:natV b<4294967296^k):b.length<=k:=by
 by_cases c:b=[]
 ·grind
 have:=A4 h c;have f:4294967296^(b.length-1)<4294967296^k:=abZ this e;grind [Nat.pow_lt_pow_iff_right]
theorem Si (o:Lmb b) (p:Lmb c) (j:uW b) (n:uW c) (h:natV b=natV c):b=c:=by
 induction b generalizing c with
 |nil=>
  cases c with
  |nil=>rfl
  |cons e c=>
   have:=A4 n (by simp);grind [natV]
 |cons a b s=>
  cases c with
  |nil=>
   have:=A4 j (by simp);grind [natV]
  |cons e c=>
   have t:=o a abt;have u:=p e abt;simp only[natV]at h;have q:a=e:=by omega
   have r:natV b=natV c:=by omega
   rw[q,s (fun f g=>o f (abp _ g)) (fun f g=>p f (abp _ g)) (wL j) (wL n) r]
def gI (neg:Bool) (n:Nat):Int:=if neg then -(n:Int)else n
theorem K6 (a:Int) (w:World):
  Calls prog 224 #[.int .i64 a] w fun e w'=>e= .returned (.bool false)/\w=w':=by
 go_enter func224,ntmps224
 go_wp2
 go_ret
 simp
def pN (a b:Int):Int:=if a<b then -1 else if b<a then 1 else 0
theorem nW (a b:Int) (w:World):
  Calls prog 192 #[.int .i64 a,.int .i64 b] w fun e w'=>e= .returned (.int .i64 (pN a b))/\w=w':=by
 go_enter func192,ntmps192
 go_wp2_with (go_at_call 224;refine(K6 _ _).mono ?_;rintro e w' ⟨rfl,rfl⟩)
 all_goals
  go_ret
  exact⟨gT (by grind [pN]),rfl⟩
def dm:List Int->List Int->Int
 |[],[]=>0
 |[],_::_=> -1
 |_::_,[]=>1
 |a::x,b::y=>if a<b then -1 else if b<a then 1 else dm x y
theorem zC {k:Nat} {a:Int} (h:e[k]?=some a) (j:f[k]?=some x):
  dm (e.drop k) (f.drop k)=if a<x then -1 else if x<a then 1 else dm (e.drop (k+1)) (f.drop (k+1)):=by
 obtain⟨c,rfl⟩:=aaf.1 h;obtain⟨g,rfl⟩:=aaf.1 j;rw[abE c,abE g];rfl
theorem zD {k:Nat} (b:k>=e.length) (c:k<f.length):dm (e.drop k) (f.drop k)= -1:=by
 rw[acn b,abE c];rfl
theorem wQ {k:Nat} (b:k<e.length) (c:k>=f.length):dm (e.drop k) (f.drop k)=1:=by
 rw[acn c,abE b];rfl
theorem zB {k:Nat} (b:k>=e.length) (c:k>=f.length):dm (e.drop k) (f.drop k)=0:=by
 rw[acn b,acn c];rfl
theorem Sl {a:Int} (h:(pN a x !=0)=true):pN a x=if a<x then -1 else if x<a then 1 else y:=by
 grind [pN]
theorem Sk {a:Int} (h:(pN a x !=0)=false):(if a<x then -1 else if x<a then 1 else y)=y:=by
 grind [pN]
theorem YZ {a:Int} (h:(a !=x)=true) (c:a<x): -1=if a<x then -1 else if x<a then 1 else y:=by simp[c]
theorem YY {a:Int} (h:(a !=x)=true) (c: ¬a<x):1=if a<x then -1 else if x<a then 1 else y:=by
 grind
theorem rS (A B:Option Addr) (c d:Nat) (x y:List Int) (w:World) (hx:RdI .i64 w A x) (hy:RdI .i64 w B y) (lx:x.length<=9223372036854775807) (ly:y.length<=9223372036854775807):
  Calls prog 225 #[.slice A x.length c,.slice B y.length d] w fun e w'=>e= .returned (.int .i64 (dm x y))/\w=w':=by
 have HX:=aae hx;have HY:=aae hy;clear hx hy
 go_enter func225,ntmps225
 go_wp2_with fail
 go_loop [11,5,6,7,8] (fun i _ _ _ _=> ∃k:Nat,k<=x.length/\i= .int .i64 k/\Hid (dm (x.drop k) (y.drop k)=dm x y)) (fun i _ _ _ _=>x.length-(intOf i).toNat)
 case atStart=>grind [Lib.hid]
 case round=>
  obtain⟨k,hk,rfl,HR⟩:=hrel;by_cases hlt:k<x.length
  ·obtain⟨a,ha⟩:=getElem?_of_lt hlt;obtain⟨b,off,rfl,hc⟩:=HX.out.at_ ha;have HA:=aae ha;clear ha;by_cases hly:k<y.length
   ·obtain⟨a',ha'⟩:=getElem?_of_lt hly;obtain⟨b',off',rfl,hc'⟩:=HY.out.at_ ha';have HA':=aae ha';clear ha';have hD:=aae (zC HA.out HA'.out)
    go_wp2_with (go_at_call 192;refine(nW _ _ _).mono ?_;rintro e w' ⟨rfl,rfl⟩)
    ·go_ret
     have hne:(pN a a' !=0)=true:=by assumption
     exact⟨gT (by rw[<- HR.out,hD.out];exact Sl hne),rfl⟩
    go_round
    case rel=>
     have he:(pN a a' !=0)=false:=by assumption
     exact⟨k+1,by omega,by go_num,aae (by rw[<- HR.out,hD.out];simp_all[Sk])⟩
    grind [intOf]
   go_wp2_with fail
   go_ret
   exact⟨gT (by rw[<- HR.out,wQ hlt (by omega)]),rfl⟩
  have hk':k=x.length:=by omega
  subst hk'
  go_wp2_with fail
  all_goals
   go_ret
   exact⟨gT (by rw[<- HR.out];grind [zD,zB]),rfl⟩
theorem oA (A B:Option Addr) (c d:Nat) (x y:List Int) (w:World) (hx:RdI .i64 w A x) (hy:RdI .i64 w B y) (lx:x.length<=9223372036854775807) (ly:y.length<=9223372036854775807):
  Calls prog 21 #[.slice A x.length c,.slice B y.length d] w fun e w'=>e= .returned (.int .i64 (dm x y))/\ ∃n,w'=w.drewN n:=by
 have HX:=aae hx;have HY:=aae hy;clear hx hy
 go_enter func21,ntmps21
 go_wp2_with fail
 go_loopw [5] (fun i wr=> ∃k n:Nat,k<=x.length/\k<=y.length/\i= .int .i64 k/\wr=w.drewN n/\Hid (dm (x.drop k) (y.drop k)=dm x y)) (fun i _=>x.length-(intOf i).toNat)
 case atStart=>exact⟨0,0,aaW _,aaW _,rfl,rfl,aae rfl⟩
 case round=>
  obtain⟨k,n,hk,hky,rfl,rfl,HR⟩:=hrel;by_cases hlt:k<x.length
  ·obtain⟨a,ha⟩:=getElem?_of_lt hlt;obtain⟨b,off,rfl,hc⟩:=HX.out.at_ ha;have HA:=aae ha;clear ha;by_cases hly:k<y.length
   ·obtain⟨a',ha'⟩:=getElem?_of_lt hly;obtain⟨b',off',rfl,hc'⟩:=HY.out.at_ ha';have HA':=aae ha';clear ha';have hD:=aae (zC HA.out HA'.out)
    go_wp2_with fail
    go_quiet (fail)
    go_wp2_with fail
    ·go_quiet (fail)
     have hne:(a !=a')=true:=by assumption
     go_wp2_with fail
     all_goals
      go_ret
      exact⟨gT (by rw[<- HR.out,hD.out];first|exact YZ hne (by omega)|exact YY hne (by omega)),_,by rw[World.drewN_drewN,World.drewN_drewN]⟩
    have he:(a !=a')=false:=by assumption
    go_roundw
    case rel=>exact⟨k+1,_,by omega,by omega,by go_num,rfl,aae (by rw[<- HR.out,hD.out];grind)⟩
    grind [intOf]
   go_wp2_with fail
   all_goals
    go_ret
    exact⟨gT (by rw[<- HR.out,wQ hlt (by omega)]),_,rfl⟩
  by_cases hly:k<y.length
  ·go_wp2_with fail
   all_goals
    go_ret
    exact⟨gT (by rw[<- HR.out,zD (by omega) (by omega)]),_,rfl⟩
  go_wp2_with fail
  all_goals
   go_ret
   exact⟨gT (by rw[<- HR.out,zB (by omega) (by omega)]),_,rfl⟩
theorem yA (A B:Option Addr) (c d:Nat) (x y:List Int) (w:World) (hx:RdI .i64 w A x) (hy:RdI .i64 w B y) (lx:x.length<=9223372036854775807) (ly:y.length<=9223372036854775807):
  Calls prog 193 #[.slice A x.length c,.slice B y.length d] w fun e w'=>e= .returned (.int .i64 (dm x y))/\w=w':=by
 go_enter func193,ntmps193
 go_wp2_with (go_at_call 225;refine(rS A B c d x y _ hx hy lx ly).mono ?_;rintro e w' ⟨rfl,rfl⟩)
 go_ret
 simp
def Vf:List Int->Int
 |[]=>0
 |a::l=>if a !=0 then a else Vf l
theorem Pv {k:Nat} {a:Int} (h:e[k]?=some a):Vf (e.drop k)=if a !=0 then a else Vf (e.drop (k+1)):=by
 obtain⟨b,rfl⟩:=aaf.1 h;rw[abE b];rfl
theorem KK (A:Option Addr) (c:Nat) (x:List Int) (w:World) (hx:RdI .i64 w A x) (lx:x.length<=9223372036854775807):
  Calls prog 191 #[.slice A x.length c] w fun e w'=>e= .returned (.int .i64 (Vf x))/\w=w':=by
 have HX:=aae hx;clear hx
 go_enter func191,ntmps191
 go_wp2_with fail
 go_loop [8,5] (fun i _=> ∃k:Nat,k<=x.length/\i= .int .i64 k/\Hid (Vf (x.drop k)=Vf x)) (fun i _=>x.length-(intOf i).toNat)
 case atStart=>grind [Lib.hid]
 case round=>
  obtain⟨k,hk,rfl,HR⟩:=hrel;by_cases hlt:k<x.length
  ·obtain⟨a,ha⟩:=getElem?_of_lt hlt;obtain⟨b,off,rfl,hc⟩:=HX.out.at_ ha;have HA:=aae (Pv ha);clear ha;by_cases h0:(a !=0)=true
   ·go_wp2_with fail
    go_ret
    exact⟨gT (by rw[<- HR.out,HA.out,if_pos h0]),rfl⟩
   have h0':(a !=0)=false:=by grind
   have H0:=aae h0';clear h0
   go_wp2_with fail
   go_round
   case rel=>exact⟨k+1,by omega,by go_num,aae (by rw[<- HR.out,HA.out,if_neg (by grind)])⟩
   grind [intOf]
  go_wp2_with fail
  go_ret
  exact⟨gT (by rw[<- HR.out,acn (by omega)];rfl),rfl⟩
theorem uN (a b:Int) (w:World):
  Calls prog 192 #[.int .i64 a,.int .i64 b] w fun e g=>e= .returned (.int .i64 (pN a b))/\g=w:=
 (nW a b w).mono fun _ _ ⟨c,f⟩=>⟨c,f.symm⟩
theorem uT (A B:Option Addr) (c d:Nat) (x y:List Int) (w:World) (g:RdI .i64 w A x) (h:RdI .i64 w B y) (j:x.length<=9223372036854775807) (l:y.length<=9223372036854775807):
  Calls prog 193 #[.slice A x.length c,.slice B y.length d] w fun e m=>e= .returned (.int .i64 (dm x y))/\m=w:=
 (yA A B c d x y w g h j l).mono fun _ _ ⟨b,f⟩=>⟨b,f.symm⟩
def KI (b:Int) (x:List Int) (c:Int) (y:List Int):Int:=Vf [pN b c,dm x y]
theorem cW {id:Nat} {Q:Exit->Act->World->Prop} {a:Act} {w:World} {l:List Oper} (n:Nat) (e:P.follows .mixedOrders=true) (c:Region.lexTailB .any l.toArray n=true) (h:wpStill P l.toArray w.drew (fun b=>wpList P l.toArray Q (l.drop n) b w.drew) (l.take n) a):(Code.region id l.toArray true).wp P Q a w:=wp_region_still_tail n e c h
theorem Gt (w:World) (b:Array Obj) (o:Obj):(Sort.grow w b).alloc o=Sort.grow w (b.push o):=by
 unfold Sort.grow World.alloc;simp
theorem Or (w:World) (a b:Obj):((w.alloc a).alloc b).drew=Sort.grow (w.drewN 1) #[a,b]:=by
 rfl
theorem AF (w:World) (a b c d:Value) (t:TypeId):
  ((w.alloc (.cells #[a,b] t)).alloc (.cells #[c,d] t)).drew.cell? ⟨w.heap.size,0,none⟩=some a/\((w.alloc (.cells #[a,b] t)).alloc (.cells #[c,d] t)).drew.cell? ⟨w.heap.size,1,none⟩=some b/\
  ((w.alloc (.cells #[a,b] t)).alloc (.cells #[c,d] t)).drew.cell? ⟨w.heap.size+1,0,none⟩=some c/\((w.alloc (.cells #[a,b] t)).alloc (.cells #[c,d] t)).drew.cell? ⟨w.heap.size+1,1,none⟩=some d/\
  Ext w ((w.alloc (.cells #[a,b] t)).alloc (.cells #[c,d] t)).drew/\ ∃os,((w.alloc (.cells #[a,b] t)).alloc (.cells #[c,d] t)).drew=Sort.grow (w.drewN 1) os:=
 ⟨by go_simp,by go_simp,by go_simp,by go_simp,(((Ext.refl _).alloc _).alloc _).drew,_,Or w _ _⟩
theorem kS (k1 k2:Int) (A B:Option Addr) (c d:Nat) (x y:List Int) (w:World) (hx:RdI .i64 w A x) (hy:RdI .i64 w B y) (lx:x.length<=9223372036854775807) (ly:y.length<=9223372036854775807):
  Calls prog 132 #[.agg #[.int .i64 k1,.slice A x.length c],.agg #[.int .i64 k2,.slice B y.length d]] w fun e w'=>
   e= .returned (.int .i64 (KI k1 x k2 y))/\ ∃q os,w'=Sort.grow (w.drewN q) os:=by
 have HX:=aae hx;have HY:=aae hy;clear hx hy
 go_enter func132,ntmps132
 go_wp2_with fail
 obtain⟨c1,c2,c3,c4,he,hg⟩:=AF w (.int .i64 k1) (.slice A x.length c) (.int .i64 k2) (.slice B y.length d) 177;have HE:=aae he;have HG:=aae hg;clear he hg;generalize(w.alloc (.cells #[.int .i64 k1,.slice A x.length c] 177)).alloc (.cells #[.int .i64 k2,.slice B y.length d] 177)=w2 at*
 refine cW 10 (by kernel_rfl) (by kernel_rfl) ?_;simp only[abS,acJ,abR,abL];generalize w2.drew=w3 at*
 iterate 4 still_step
 still_call (uN _ _ _)
 iterate 4 still_step
 still_call (uT A B c d x y _ (HX.out.ext HE.out) (HY.out.ext HE.out) lx ly)
 refine wpStill_nil ?_;have hor:=KK (some ⟨w3.heap.size,0,none⟩) 2 [pN k1 k2,dm x y] (w3.alloc (.cells #[.int .i64 (pN k1 k2),.int .i64 (dm x y)] 3)) (fun _=>⟨w3.heap.size,0,rfl,fun i v hv=>by
  simp_all⟩) (by simp)
 rw[show[pN k1 k2,dm x y].length=2 from rfl]at hor;have HOR:=aae hor;clear hor
 go_wp2_with fail
 refine HOR.out.mono ?_;rintro e w' ⟨rfl,rfl⟩
 go_wp2_with fail
 go_ret
 obtain⟨os,rfl⟩:=HG.out;exact⟨rfl,1,_,Gt _ _ _⟩
theorem Tryz.inU32:(prog.info? 165).map (fun i=>(i.zero,i.size,i.bytes))=some (some (.int .u32 0),1,4):=by kernel_rfl
def sg (z:Int):Int:=if z<0 then -1 else if z=0 then 0 else 1
theorem AG (u:Nat):natV [u%4294967296,u/4294967296]=u:=by grind [natV]
def gX (a b:Nat):Int:=if a<b then -1 else if a=b then 0 else 1
theorem xx {k a:Nat} (h:b[k]?=some a):natV b=natV (b.take k)+4294967296^k*(a+4294967296*natV (b.drop (k+1))):=by
 grind [List.take_append_drop,jE,List.drop_eq_getElem_cons,natV]
theorem OU (h:Lmb b) (k:Nat):Lmb (b.take k):=fun a c=>h a (abr c)
theorem mV {k a:Nat} (o:Lmb b) (e:b[k]?=some a) (h:c[k]?=some n) (j:b.drop (k+1)=c.drop (k+1)) (g:a<n):natV b<natV c:=by
 have q:=(aaf.1 e).1;rw[xx e,xx h,j];have f:=fH (OU o k);rw[abc,ac3 (by omega)]at f;have p:4294967296^k*(a+1+4294967296*natV (c.drop (k+1)))<=4294967296^k*(n+4294967296*natV (c.drop (k+1))):=aao _ (by omega);grind
theorem jG (e:Lmb b) (f:uW c) (h:b.length<c.length):natV b<natV c:=by
 have g:=fH e;have j:=A4 f (by grind);have n:4294967296^b.length<=4294967296^(c.length-1):=aaE (by omega) (by omega);omega
theorem oN {a:Nat} (h:a<n):gX a n= -1:=by simp[gX,h]
theorem vi {a:Nat} (h:n<a):gX a n=1:=by grind [gX]
theorem zI {k a:Nat} (e:b[k]?=some a) (f:c[k]?=some a) (g:b.drop (k+1)=c.drop (k+1)):b.drop k=c.drop k:=by
 grind [List.drop_eq_getElem_cons]
section
def fE (H:OH):AV->Prop
 | .sl a _ _ _=>H a≠[]
 | .ptr a _ _ _=>H a≠[]
 | .fn _ a b=>H a≠[]/\b≠[]
 |_=>True
def gH (H:OH):TV->Prop
 | .one x=>fE H x
 | .agg b=> ∀x∈b,fE H x
 | .fn _ b=> ∀x∈b,fE H x
 | .tup c=> ∀t∈c,∀x∈t.2,fE H x
def lT (s:AS):Prop:=(∀(t:Nat) x,s.tmps[t]?=some x->gH s.H x)/\ ∀a,∀o∈s.H a,selfO a o
section
variable {P:Program} {s s':AS} {H:OH}
theorem d9 {N w:World} {X:Nat->Prop} {a:Act} (b:da N h X s a w):lT s:=by
 obtain⟨_,_,B,q,E⟩:=b;have C: ∀x v,AV.rel B s.H (Xo X B s.H) w x v->fE s.H x:=fun x v c=>by
  cases x with
  |p x=>trivial
  |sl a r K len=>obtain⟨o,e,_⟩:=c;intro m;rw[m]at e;simp at e
  |ptr a r i j=>obtain⟨o,_,_,e,_⟩:=c;intro m;rw[m]at e;simp at e
  |fn f a L=>obtain⟨vs,_,_,F,n⟩:=c;obtain⟨u,_,o,_,_,e,_⟩:=n 0 L[0] (aau F);exact⟨fun m=>by rw[m]at e;simp at e,acv F⟩
  |junk=>trivial
 have agg: ∀g v,bI B s.H (Xo X B s.H) w g v-> ∀x∈g,fE s.H x:=fun g v G x c=>by
  obtain⟨vs,_,_,n⟩:=G;obtain⟨k,z,rfl⟩:=abA c;obtain⟨u,_,_,l⟩:=n k _ (aau z);exact C _ _ l
 refine⟨fun t x c=>?_,fun a o I=>?_⟩
 ·obtain⟨v,_,A⟩:=E t x c;cases x with
  |one x=>exact C x v A
  |agg g=>exact agg g v A
  |fn f g=>obtain⟨u,e,Q⟩:=A;exact agg g u e
  |tup M=>
   obtain⟨vs,_,_,n⟩:=A;intro t J x c;obtain⟨k,z,rfl⟩:=abA J;obtain⟨u,_,l⟩:=n k _ _ (aau z);rcases l with⟨_,l⟩|⟨_,y,D,l⟩
   ·exact agg _ _ l x c
   have D:M[k].2=[y]:=D;rw[D]at c;simp at c;subst c;exact C _ _ l
 obtain⟨k,z,rfl⟩:=abA I;exact q.self a k _ (aau z)
theorem eG (h:lT s) {x:Operand} (b:s.ev x=some j):gH s.H j:=by
 cases x with
 |tmp k=>exact h.1 k j b
 |const v=>
  simp only[AS.ev]at b;injection b with b
  subst b;unfold oX;split
  ·split
   ·intro y c;simp only[aai]at c;obtain⟨u,_,rfl⟩:=c;trivial
   trivial
  split<;>trivial
 |global g=>simp only[AS.ev]at b;injection b with b;subst b;trivial
 |func f=>simp only[AS.ev]at b;injection b with b;subst b;trivial
theorem mf (h:lT s) {d:Option Tmp} (e:gH s.H j):lT (s.put d j):=by
 refine⟨fun k x b=>?_,by rw[fK];exact h.2⟩;rw[fK];cases d with
 |none=>exact h.1 k x b
 |some d=>
  simp only[AS.put]at b;by_cases c:d=k
  ·subst c;rw[aa7]at b;simp at b;obtain⟨_,rfl⟩:=b;exact e
  rw[aaI c]at b;exact h.1 k x b
theorem KT (h:lT s) {op:Op} (e:i7 P s.ev op=some j):gH s.H j:=by
 cases op<;>simp only[i7]at e<;>try cases e
 case call c=>
  unfold YX at e;split at e
  ·obtain⟨k,m,a,b,_,rfl⟩:=mc e;trivial
  ·obtain⟨k,m,a,b,_,rfl⟩:=mc e;trivial
  cases e
 case move x=>exact eG h e
 case assign x=>exact eG h e
 case pick c a b=>
  split at e
  ·exact eG h e
  ·exact eG h e
  cases e
 case binOp op ty x y yt=>
  split at e
  ·unfold Ae at e;split at e
   ·injection e with e;subst e;trivial
   ·injection e with e;subst e;trivial
   cases e
  split at e
  ·obtain⟨v,_,rfl⟩:=u6.1 e;trivial
  ·unfold Dr at e;split at e
   ·split at e
    ·injection e with e;subst e;trivial
    cases e
   ·split at e
    ·injection e with e;subst e;trivial
    cases e
   cases e
  cases e
 case unOp op ty x=>
  split at e
  ·obtain⟨v,_,rfl⟩:=u6.1 e;trivial
  cases e
 case convert a b x=>
  split at e
  ·injection e with e;subst e;trivial
  cases e
 case extract x k=>
  split at e
  ·rename_i o l;have g:=eG h l;split at e
   ·rename_i n f;injection e with e
    subst e;exact g _ (u5 f)
   ·rename_i y f;injection e with e
    subst e;exact g _ (u5 f) y (by simp)
   cases e
  cases e
theorem oZ {t:TypeId} (h:nw P t l=some j) (b: ∀x∈l,fE H x):gH H j:=by
 unfold nw at h;split at h
 ·split at h
  ·injection h with h;subst h;exact fun x c=>b x (abr c)
  cases h
 ·split at h
  ·injection h with h;subst h;exact b _ (by simp)
  cases h
 cases h
theorem A6 (h:cellsOf j=some l) (c:gH H j): ∀x∈l,fE H x:=by
 unfold cellsOf at h;split at h
 ·injection h with h;subst h;intro x b;simp at b;subst b;trivial
 ·injection h with h;subst h;intro x b;simp at b;subst b;exact c
 ·injection h with h;subst h;exact c
 cases h
theorem zL (h:lT s) {r:List (Nat×Nat)}: ∀(parts:List (Nat×Operand)) (j b:List AV),jy r s.ev j parts=some b->(∀x∈j,fE s.H x)-> ∀x∈b,fE s.H x
 |[],j,b,c,l=>by simp only[jy]at c;injection c with c;subst c;exact l
 |(f,x)::g,j,b,c,l=>by
  simp only[jy]at c;split at c
  ·rename_i q n v u p;obtain⟨t,o,m⟩:=aaw.1 p;split at c
   ·refine zL h g _ b c fun y e=>?_
    simp only[abe]at e;rcases e with(e|e)|e
    ·exact l y (abr e)
    ·exact A6 m (eG h o) y e
    exact l y (abq e)
   cases c
  cases c
theorem LW (h:lT s) {a i:Nat} {o:OObj} (g:(s.H a)[n]?=some o) (q:o.elems[i]?=some l): ∀x∈l,fE s.H x:=fun x t=>by
 have c:=h.2 a o (u5 g) l (u5 q) x t;have f:s.H a≠[]:=by intro m;rw[m]at g;simp at g
 cases x with
 |sl b _ _ _=>have c:b=a:=c;subst c;exact f
 |ptr b _ _ _=>have c:b=a:=c;subst c;exact f
 |fn _ b _=>have j:b=a:=c.1;subst j;exact⟨f,c.2⟩
 |p x=>trivial
 |junk=>trivial
theorem KU (h:lT s) {op:Op} (l:bU P s.ev s.H op=some j):gH s.H j:=by
 cases op
 case load ty x=>
  simp only[bU]at l;split at l
  ·exact oZ l (fun y p=>by simp only[aai]at p;obtain⟨z,_,rfl⟩:=p;trivial)
  ·split at l
   ·rename_i o E;split at l
    ·rename_i e C;exact oZ l (fun y p=>LW h E C y (abq p))
    cases l
   cases l
  cases l
 case indexAddr ty x ix=>
  simp only[bU]at l;split at l
  ·split at l
   ·cases l
   split at l
   ·split at l
    ·split at l
     ·injection l with l;subst l;trivial
     cases l
    cases l
   ·rename_i e a r F len J n;split at l
    ·split at l
     ·injection l with l;subst l;have q:=eG h n;exact q
     cases l
    cases l
   ·split at l
    ·split at l
     ·split at l
      ·injection l with l;subst l;trivial
      cases l
     cases l
    cases l
   ·rename_i n;split at l
    ·split at l
     ·split at l
      ·injection l with l;subst l;have q:=eG h n;exact q
      cases l
     cases l
    cases l
   ·split at l
    ·split at l
     ·split at l
      ·injection l with l;subst l;trivial
      cases l
     cases l
    cases l
   cases l
  cases l
 case index ty x ix=>
  simp only[bU]at l;split at l
  ·split at l
   ·cases l
   split at l
   ·rename_i n;split at l
    ·split at l
     ·exact oZ l (fun y p=>eG h n y (abq p))
     cases l
    cases l
   cases l
  cases l
 case fieldAddr ty x f=>
  simp only[bU]at l;split at l
  ·split at l
   ·injection l with l;subst l;trivial
   cases l
  ·rename_i n;split at l
   ·injection l with l;subst l;have q:=eG h n;exact q
   cases l
  cases l
 case field ty x f=>
  simp only[bU]at l;split at l
  ·rename_i n;exact oZ l (fun y p=>eG h n y (abq p))
  cases l
 case slice ty x lo hi mx=>
  cases mx with
  |some mx=>
   cases lo with
   |none=>simp only[bU]at l;cases l
   |some lo=>
   cases hi with
   |none=>simp only[bU]at l;cases l
   |some hi=>
   simp only[bU]at l;split at l
   ·rename_i n;split at l
    ·split at l
     ·injection l with l;subst l;have q:=eG h n;exact q
     cases l
    cases l
   cases l
  |none=>
   simp only[bU]at l;split at l
   ·split at l
    ·split at l
     ·injection l with l;subst l;trivial
     cases l
    cases l
   ·rename_i n;split at l
    ·split at l
     ·injection l with l;subst l;have q:=eG h n;exact q
     split at l
     ·injection l with l;subst l;trivial
     cases l
    cases l
   cases l
 case build ty parts=>
  simp only[bU]at l;split at l
  ·split at l
   ·obtain⟨w,u,rfl⟩:=u6.1 l;exact zL h _ _ _ u (fun y p=>by simp only[aai]at p;obtain⟨z,_,rfl⟩:=p;trivial)
   cases l
  cases l
 case nilCheck x=>
  simp only[bU]at l;split at l
  ·injection l with l;subst l;trivial
  ·rename_i n;injection l with l;subst l;have q:=eG h n;exact q
  cases l
 case makeFunc fn first captured=>
  cases fn with
  |func f=>
   simp only[bU]at l;split at l
   ·obtain⟨w,u,rfl⟩:=u6.1 l;obtain⟨K,v,B⟩:=aaw.1 u;intro x n;obtain⟨g,D,rfl⟩:=abA n;obtain⟨A,I⟩:=(pK B).2 g _ (aau D);obtain⟨y,L,G⟩:=(bP v).2 g _ A;have q:=eG h G;exact q
   cases l
  |_=>simp only[bU]at l;cases l
 case call c=>
  obtain⟨callee,args,argTypes⟩:=c;cases callee with
  |builtin b=>
   cases b
   case len=>
    simp only[bU]at l;split at l
    ·split at l
     ·injection l with l;subst l;trivial
     ·injection l with l;subst l;trivial
     ·injection l with l;subst l;trivial
     cases l
    cases l
   all_goals (simp only[bU]at l;cases l)
  |value f=>simp only[bU]at l;cases l
  |invoke r m=>simp only[bU]at l;cases l
 all_goals (simp only[bU]at l;cases l)
end
end
end Go.Proofs.YtalmoejhjceflaaGreat
