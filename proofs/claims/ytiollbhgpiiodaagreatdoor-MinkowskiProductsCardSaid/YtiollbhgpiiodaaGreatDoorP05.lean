/-
  Part 6 of a proof (walks and plain facts).
-/
import Derived.Test.YtiollbhgpiiodaaGreatDoorP04
import Derived.StillTailTactics
import Derived.Sort.Grow
import Derived.Deep.DeepFit
set_option linter.all false
set_option maxRecDepth 100000
set_option maxHeartbeats 64000000
open List renaming all_eq_true → ak
open List renaming mem_map → an
open List renaming getElem?_eq_getElem → aw
open List renaming mem_of_getElem? → ax
open List renaming getElem?_map → aA
namespace Go.Proofs.YtiollbhgpiiodaaGreatDoor
open Go.RowKit
section
structure Nj where
 i:Nat
 d:Option Tmp
 op:Op
 g:Option (Tmp×Bool)
def zI (ops:Array Oper) (o:Oper) (i:Nat):Nj:=match o.guard with
 |none=>⟨i,o.dst,o.op,none⟩
 |some (g,want)=>match(ops[g]?).bind (·.dst)with
  |some d=>⟨i,o.dst,o.op,some (d,want)⟩
  |none=>⟨i,none,.extract (.func 0) 0,none⟩
def bO (ops:Array Oper):List Oper->Nat->List Nj
 |[],_=>[]
 |o::l,i=>zI ops o i::bO ops l (i+1)
section
variable (P:Program) (items:List (dN P)) (ow:List Nat)
noncomputable def PS (i : Nat) (d : Option Tmp) (op : Op) (s : AS) : Option AS := eF P items ow i ⟨d, op, 0, "", #[], none⟩ s
noncomputable def dC:Nj->AS->Option AS
 |⟨i,d,op,none⟩,s=>PS P items ow i d op s
 |⟨i,d,op,some (k,want)⟩,s=>match s.tmps[k]? with
  |some (.one (.p (.raw (.bool b))))=>if b=want then PS P items ow i d op s else some (s.put d .undef)
  |some (.tup [])=>some (s.put d .undef)
  |_=>none
noncomputable def cz:List Nj->Option AS->(AS->Prop)->Prop
 |_,none,_=>False
 |[],some s,Q=>Q s
 |st::l,some s,Q=>cz l (dC P items ow st s) Q
theorem Fx (l:List Nj) (Q:AS->Prop):cz P items ow l none Q=False:=by cases l<;>rfl
theorem IM (s:AS) (Q:AS->Prop):cz P items ow [] (some s) Q=Q s:=rfl
theorem ws (st:Nj) (l:List Nj) (s:AS) (Q:AS->Prop):cz P items ow (st::l) (some s) Q=cz P items ow l (dC P items ow st s) Q:=rfl
theorem sC (i : Nat) (o : Oper) (s : AS) : eF P items ow i ⟨o.dst, o.op, 0, "", #[], none⟩ s = eF P items ow i o s := rfl
theorem vn {i:Nat} {o:Oper} {s s1:AS} (hs:eF P items ow i o s=some s1):s1.tmps.length=s.tmps.length:=by
 unfold eF at hs;split at hs
 ·obtain⟨t,_,rfl⟩:=Option.map_eq_some_iff.1 hs;exact fW _ _ _
 split at hs
 ·obtain⟨t,_,rfl⟩:=Option.map_eq_some_iff.1 hs;exact fW _ _ _
 split at hs
 ·injection hs with hs;subst hs;rw[fW];simp
 split at hs
 ·cases hs
 split at hs
 ·injection hs with hs;subst hs;exact fW _ _ _
 ·split at hs
  ·injection hs with hs;subst hs;rw[fW]
  cases hs
 cases hs
theorem FG {ops:Array Oper} {o:Oper} {i:Nat} {s s1:AS} (h:dC P items ow (zI ops o i) s=some s1):cf P items ow ops i o s=some s1/\s1.tmps.length=s.tmps.length:=by
 unfold zI at h;unfold cf;cases hg:o.guard with
 |none=>
  rw[hg]at h;simp only[dC,PS,sC]at h;exact⟨h,vn P items ow h⟩
 |some gw=>
  obtain⟨g,want⟩:=gw;rw[hg]at h;simp only at h⊢;cases hd:(ops[g]?).bind (·.dst)with
  |none=>
   rw[hd]at h;cases h
  |some d=>
   rw[hd]at h;simp only[dC,PS,sC]at h;simp only;split at h
   ·rename_i b hb;rw[hb];simp only;split at h
    ·rename_i hbw;rw[if_pos hbw];exact⟨h,vn P items ow h⟩
    rename_i hbw;rw[if_neg hbw];exact⟨h,by injection h with h;subst h;exact fW _ _ _⟩
   ·rename_i hb;rw[hb];exact⟨h,by injection h with h;subst h;exact fW _ _ _⟩
   cases h
theorem cq (ops:Array Oper): ∀(l:List Oper) (i:Nat) (s:AS) (Q:AS->Prop),cz P items ow (bO ops l i) (some s) Q-> ∃s',iG P items ow ops (l.zipIdx i) s=some s'/\Q s'
 |[],i,s,Q,h=>⟨s,rfl,h⟩
 |o::l,i,s,Q,h=>by
  simp only[bO,ws]at h;simp only[List.zipIdx_cons,iG];cases hs:dC P items ow (zI ops o i) s with
  |none=>rw[hs,Fx]at h;exact h.elim
  |some s1=>
   rw[hs]at h;obtain⟨h1,h2⟩:=FG P items ow hs;rw[h1];exact cq ops l (i+1) s1 Q h
variable {P}
theorem mZ (items:List (aW P)) (ow:List Nat) {id:Nat} {ops:Array Oper} {s:AS} {Q:Exit->AS->Prop} (h:cz P (items.map aW.a) ow (bO ops ops.toList 0) (some s) (Q .normal)):bu P (.region id ops false) Q s:=by
 obtain⟨s',h1,h2⟩:=cq P (items.map aW.a) ow ops ops.toList 0 s (Q .normal) h;exact AH _ (aW.ok items) ow h1 h2
variable {items} {ow}
variable {i:Nat} {d:Option Tmp} {s:AS}
theorem FE (op:Op) (k:Tmp) (want:Bool):dC P items ow ⟨i,d,op,some (k,want)⟩ s=match s.tmps[k]? with
  |some (.one (.p (.raw (.bool b))))=>if b=want then dC P items ow ⟨i,d,op,none⟩ s else some (s.put d .undef)
  |some (.tup [])=>some (s.put d .undef)
  |_=>none:=rfl
theorem rb {op:Op} (h:xo op=true):dC P items ow ⟨i,d,op,none⟩ s=(jh P s.ev op).map (s.put d):=by
 show eF P items ow i ⟨d, op, 0, "", #[], none⟩ s = _;unfold eF;simp only[h,if_true]
theorem rc {op:Op} (h:xo op=false) (h':KV op=true):dC P items ow ⟨i,d,op,none⟩ s=(ca P s.ev s.H op).map (s.put d):=by
 show eF P items ow i ⟨d, op, 0, "", #[], none⟩ s = _;unfold eF;simp only[h,h',if_true,Bool.false_eq_true,if_false]
theorem Ij (x:Operand):dC P items ow ⟨i,d,.move x,none⟩ s=(s.ev x).map (s.put d):=rb rfl
theorem BS (x:Operand):dC P items ow ⟨i,d,.assign x,none⟩ s=(s.ev x).map (s.put d):=rb rfl
theorem Ik (c a b:Operand):dC P items ow ⟨i,d,.pick c a b,none⟩ s=(jh P s.ev (.pick c a b)).map (s.put d):=rb rfl
theorem Lh (op:BinOp) (t t':TypeId) (x y:Operand):dC P items ow ⟨i,d,.binOp op t x y t',none⟩ s=(jh P s.ev (.binOp op t x y t')).map (s.put d):=rb rfl
theorem Oc (op:UnOp) (t:TypeId) (x:Operand):dC P items ow ⟨i,d,.unOp op t x,none⟩ s=(jh P s.ev (.unOp op t x)).map (s.put d):=rb rfl
theorem Ih (t t':TypeId) (x:Operand):dC P items ow ⟨i,d,.convert t t' x,none⟩ s=(jh P s.ev (.convert t t' x)).map (s.put d):=rb rfl
theorem zC (x:Operand) (k:Nat):dC P items ow ⟨i,d,.extract x k,none⟩ s=(jh P s.ev (.extract x k)).map (s.put d):=rb rfl
theorem Ii (t:TypeId) (x:Operand):dC P items ow ⟨i,d,.load t x,none⟩ s=(ca P s.ev s.H (.load t x)).map (s.put d):=rc rfl rfl
theorem u6 (t:TypeId) (x y:Operand):dC P items ow ⟨i,d,.indexAddr t x y,none⟩ s=(ca P s.ev s.H (.indexAddr t x y)).map (s.put d):=rc rfl rfl
theorem u5 (t:TypeId) (x:Operand) (f:Nat):dC P items ow ⟨i,d,.fieldAddr t x f,none⟩ s=(ca P s.ev s.H (.fieldAddr t x f)).map (s.put d):=rc rfl rfl
theorem Fk (t:TypeId) (x:Operand) (f:Nat):dC P items ow ⟨i,d,.field t x f,none⟩ s=(ca P s.ev s.H (.field t x f)).map (s.put d):=rc rfl rfl
theorem Fl (t:TypeId) (x:Operand) (lo hi mx:Option Operand):dC P items ow ⟨i,d,.slice t x lo hi mx,none⟩ s=(ca P s.ev s.H (.slice t x lo hi mx)).map (s.put d):=rc rfl rfl
theorem Fi (t:TypeId) (ps:Array (Nat×Operand)):dC P items ow ⟨i,d,.build t ps,none⟩ s=(ca P s.ev s.H (.build t ps)).map (s.put d):=rc rfl rfl
theorem xF (f:Fn) (xs ys:Array Operand):dC P items ow ⟨i,d,.makeFunc f xs ys,none⟩ s=(ca P s.ev s.H (.makeFunc f xs ys)).map (s.put d):=rc rfl rfl
theorem Lk (x y:Operand) (ts:Array TypeId):dC P items ow ⟨i,d,.call {callee:= .builtin .max,args:= #[x,y],argTypes:=ts},none⟩ s=(J3 (fun a b=>if b>a then b else a) [s.ev x,s.ev y]).map (s.put d):=rb rfl
theorem Lj (xs:Array Operand) (ts:Array TypeId):dC P items ow ⟨i,d,.call {callee:= .builtin .len,args:=xs,argTypes:=ts},none⟩ s=(ca P s.ev s.H (.call {callee:= .builtin .len,args:=xs,argTypes:=ts})).map (s.put d):=rc rfl rfl
def uZ (d:Nat) (s:AS):Option (TV×List OObj)->Option AS
 |some (t,[])=>some (s.put (some d) t)
 |some (t,o::l)=>(match s.H d with|[]=>some (AS.put ⟨s.tmps,bs s.H d (o::l)⟩ (some d) t)|_=>none)
 |none=>none
theorem tP {op:Op} {d:Nat} (h:xo op=false) (h':KV op=false) (hD:fJ P s.ev s.H op=none):dC P items ow ⟨i,some d,op,none⟩ s=uZ d s (da P items ow i d s.ev s.H op):=by
 show eF P items ow i ⟨some d, op, 0, "", #[], none⟩ s = _;unfold eF uZ;simp only[h,h',Bool.false_eq_true,if_false,hD];cases hA:da P items ow i d s.ev s.H op with
 |none=>rfl
 |some tF=>
  obtain⟨t,F⟩:=tF;cases F with
  |nil=>rfl
  |cons o l=>simp only[];cases s.H d<;>rfl
theorem Li {d:Nat} (e:TypeId) (x:Operand):dC P items ow ⟨i,some d,.box e x,none⟩ s=uZ d s (da P items ow i d s.ev s.H (.box e x)):=tP rfl rfl rfl
theorem Fh {d:Nat} (e:TypeId):dC P items ow ⟨i,some d,.alloc e,none⟩ s=uZ d s (da P items ow i d s.ev s.H (.alloc e)):=tP rfl rfl rfl
theorem u7 {d:Nat} (t:TypeId) (x y:Operand):dC P items ow ⟨i,some d,.makeSlice t x y,none⟩ s=uZ d s (da P items ow i d s.ev s.H (.makeSlice t x y)):=tP rfl rfl rfl
theorem tQ {d:Nat} (t:TypeId) (n:Nat) (ps:Array (Nat×Operand)):dC P items ow ⟨i,some d,.buildSlice t n ps,none⟩ s=uZ d s (da P items ow i d s.ev s.H (.buildSlice t n ps)):=tP rfl rfl rfl
theorem Ig {d:Nat} (f:FuncId) (xs:Array Operand) (ts:Array TypeId):dC P items ow ⟨i,some d,.call {callee:= .value (.func f),args:=xs,argTypes:=ts},none⟩ s=uZ d s (da P items ow i d s.ev s.H (.call {callee:= .value (.func f),args:=xs,argTypes:=ts})):=tP rfl rfl rfl
theorem Fj {d:Nat} (k:Tmp) (xs:Array Operand) (ts:Array TypeId):dC P items ow ⟨i,some d,.call {callee:= .value (.tmp k),args:=xs,argTypes:=ts},none⟩ s=uZ d s (da P items ow i d s.ev s.H (.call {callee:= .value (.tmp k),args:=xs,argTypes:=ts})):=tP rfl rfl rfl
def PT (d:Option Tmp) (s:AS):Option AA->Option AS
 |some q=>some (AS.put ⟨s.tmps.map (bv q.k),q.H⟩ d q.t)
 |none=>none
theorem Fm (t:TypeId) (x y:Operand):dC P items ow ⟨i,d,.store t x y,none⟩ s=PT d s (fJ P s.ev s.H (.store t x y)):=by
 show eF P items ow i ⟨d, .store t x y, 0, "", #[], none⟩ s = _;unfold eF PT;simp only[xo,KV,Bool.false_eq_true,if_false];cases hq:fJ P s.ev s.H (.store t x y)with
 |some q=>rfl
 |none=>
  cases d with
  |none=>rfl
  |some d=>simp only[da]
def Pf (d:Nat) (s:AS) (q:Option AA) (r:Option (TV×List OObj)):Option AS:=match q with
 |some q=>PT (some d) s (some q)
 |none=>uZ d s r
theorem BQ {d:Nat} (xs:Array Operand) (ts:Array TypeId):dC P items ow ⟨i,some d,.call {callee:= .builtin .append,args:=xs,argTypes:=ts},none⟩ s=
  Pf d s (fJ P s.ev s.H (.call {callee:= .builtin .append,args:=xs,argTypes:=ts})) (da P items ow i d s.ev s.H (.call {callee:= .builtin .append,args:=xs,argTypes:=ts})):=by
 cases hq:fJ P s.ev s.H (.call {callee:= .builtin .append,args:=xs,argTypes:=ts})with
 |some q=>
  show eF P items ow i ⟨some d, .call { callee := .builtin .append, args := xs, argTypes := ts }, 0, "", #[], none⟩ s = _;unfold eF;simp only[xo,NY,KV,Bool.false_eq_true,if_false,hq];rfl
 |none=>exact tP rfl rfl hq
end
end
section
def Hm:List (Nat×List OObj)->OH
 |[],_=>[]
 |(k,F)::l,a=>if a=k then F else Hm l a
def Nd (H:OH):List (Nat×List OObj)->Prop
 |[]=>True
 |(k,F)::l=>H k=F/\Nd H l
def zB (ks:List Nat):AV->Bool
 | .sl a _ _ _=>ks.contains a
 | .ptr a _ _ _=>ks.contains a
 |_=>true
def Lg (ks:List Nat):TV->Bool
 | .one x=>zB ks x
 | .agg cs=>cs.all (zB ks)
 | .fn _ cs=>cs.all (zB ks)
 | .tup ts=>ts.all fun t=>t.2.all (zB ks)
def OX (ks:List Nat):List TV->List TV->Prop
 |[],[]=>True
 |x::xs,y::ys=>(y= .one .junk\/(y=x/\Lg ks y=true))/\OX ks xs ys
 |_,_=>False
section
variable {P:Program} {w0 w w':World} {O X:Nat->Prop} {ρ:Rho} {H:OH}
theorem CG {H:OH}: ∀{l:List (Nat×List OObj)},Nd H l-> ∀a,((l.map (·.1)).contains a=true->Hm l a=H a)/\((l.map (·.1)).contains a=false->Hm l a=[])
 |[],_,a=>⟨fun h=>by simp at h,fun _=>rfl⟩
 |(k,F)::l,h,a=>by
  obtain⟨h1,h2⟩:=h;obtain⟨g1,g2⟩:=CG h2 a;by_cases ha:a=k
  ·subst ha;exact⟨fun _=>by simp[Hm,h1],fun h=>by simp at h⟩
  refine⟨fun h=>?_,fun h=>?_⟩
  ·simp only[Hm,ha,if_false];apply g1;simpa[ha] using h
  simp only[Hm,ha,if_false];apply g2;simpa[ha] using h
theorem D2 {ks:List Nat}: ∀{l m:List TV},OX ks l m->m.length=l.length/\ ∀(t:Nat) y,m[t]?=some y->y= .one .junk\/(l[t]?=some y/\Lg ks y=true)
 |[],[],_=>⟨rfl,fun t y h=>by simp at h⟩
 |x::xs,y::ys,h=>by
  obtain⟨h1,h2⟩:=h;obtain⟨g1,g2⟩:=D2 h2;refine⟨by simp[g1],fun t z hz=>?_⟩;cases t with
  |succ t=>simp at hz⊢;exact g2 t z hz
  |zero=>
   simp at hz;subst hz;rcases h1 with h1|⟨h1,h3⟩
   ·exact .inl h1
   exact .inr ⟨by simp[h1],h3⟩
 |[],y::ys,h=>h.elim
 |x::xs,[],h=>h.elim
theorem LY {H':OH} {Y Y':Nat->Prop} {ks:List Nat} (hk: ∀a,ks.contains a=true->H' a=H a) (hY: ∀b,Y' b->Y b) {x:AV} {v:Value} (ho:zB ks x=true) (h:x.rel ρ H Y w v):x.rel ρ H' Y' w v:=by
 cases x with
 |p x=>exact cu.weaken (fun b _ hb=>hY b hb) h
 |sl a r off len=>
  obtain⟨o,h1,h2⟩:=h;exact⟨o,by rw[hk a ho];exact h1,h2⟩
 |ptr a r i j=>
  obtain⟨o,b,c,h1,h2⟩:=h;exact⟨o,b,c,by rw[hk a ho];exact h1,h2⟩
 |junk=>trivial
theorem aG {s:AS} {tm:List TV} {l:List (Nat×List OObj)} (hl:Nd s.H l) (ht:OX (l.map (·.1)) s.tmps tm):cj s ⟨tm,Hm l⟩:=by
 rintro w0 O X a w ⟨h1,hsz,ρ,hinv,htm⟩;obtain⟨t1,t2⟩:=D2 ht;have hk:=fun a=>CG hl a
 have live: ∀(a r:Nat) o,(Hm l a)[r]?=some o->(l.map (·.1)).contains a=true/\(s.H a)[r]?=some o:=fun a r o ho=>by
  cases hc:(l.map (·.1)).contains a with
  |false=>rw[(hk a).2 hc]at ho;simp at ho
  |true=>rw[(hk a).1 hc]at ho;exact⟨rfl,ho⟩
 have hXo: ∀b,Xo X ρ (Hm l) b->Xo X ρ s.H b:=fun b hb=>by
  rcases hb with hb|⟨x,y,o,n,g1,g2⟩
  ·exact .inl hb
  exact .inr ⟨x,y,o,n,(live x y o g1).2,g2⟩
 have hmap: ∀x v,zB (l.map (·.1)) x=true->AV.rel ρ s.H (Xo X ρ s.H) w x v->AV.rel ρ (Hm l) (Xo X ρ (Hm l)) w x v:=fun x v ho h=>LY (fun a ha=>(hk a).1 ha) hXo ho h
 have hagg: ∀cs v,cs.all (zB (l.map (·.1)))=true->b6 ρ s.H (Xo X ρ s.H) w cs v->b6 ρ (Hm l) (Xo X ρ (Hm l)) w cs v:=fun cs v ho h=>by
  simp only[ak]at ho;obtain⟨vs,g1,g2,g3⟩:=h;exact⟨vs,g1,g2,fun j x hx=>by obtain⟨u,u1,u2,u3⟩:=g3 j x hx;exact⟨u,u1,u2,hmap x u (ho x (ax hx)) u3⟩⟩
 refine⟨h1,by simp only;omega,ρ,⟨hinv.keep,fun a r o ho=>?_,fun a r a' r' o o' b c c' ho ho'=>hinv.inj a r a' r' o o' b c c' (live a r o ho).2 (live a' r' o' ho').2,fun a r o b c ho=>hinv.old a r o b c (live a r o ho).2,hinv.bar,fun a r o ho=>hinv.self a r o (live a r o ho).2⟩,fun t x hx=>?_⟩
 ·obtain⟨hc,ho'⟩:=live a r o ho;obtain⟨q1,q2,q3⟩:=hinv.objs a r o ho';refine⟨q1,q2,?_⟩;cases hr:ρ a r with
  |none=>rw[hr]at q3;exact q3
  |some bc=>
   obtain⟨b,c⟩:=bc;rw[hr]at q3;obtain⟨cells,p1,p2,p3,p4,p5⟩:=q3;refine⟨cells,p1,p2,p3,p4,fun i e j x he hx=>?_⟩;obtain⟨u,u1,u2,u3⟩:=p5 i e j x he hx;have hs:=hinv.self a r o ho' e (ax he) x (ax hx);refine⟨u,u1,u2,hmap x u ?_ u3⟩;cases x with
   |sl y _ _ _=>have hs:y=a:=hs;subst hs;exact hc
   |ptr y _ _ _=>have hs:y=a:=hs;subst hs;exact hc
   |p y=>rfl
   |junk=>rfl
 rcases t2 t x hx with rfl|⟨hx',hok⟩
 ·obtain⟨v,hv⟩: ∃v,a.tmps[t]?=some v:=by
   have:t<tm.length:=(List.getElem?_eq_some_iff.1 hx).1;exact⟨_,Array.getElem?_eq_getElem (by omega)⟩
  exact⟨v,hv,trivial⟩
 obtain⟨v,v1,v2⟩:=htm t x hx';refine⟨v,v1,?_⟩;cases x with
 |one x=>exact hmap x v hok v2
 |agg cs=>exact hagg cs v hok v2
 |fn f cs=>obtain⟨u,h1,h2⟩:=v2;exact⟨u,hagg cs u hok h1,h2⟩
 |tup ts=>
  simp only[Lg,ak]at hok;obtain⟨vs,g1,g2,g3⟩:=v2;refine⟨vs,g1,g2,fun j b cs hj=>?_⟩;obtain⟨u,u1,u2⟩:=g3 j b cs hj;have hall:=hok (b,cs) (ax hj);refine⟨u,u1,?_⟩;rcases u2 with⟨u2,u3⟩|⟨u2,y,rfl,u4⟩
  ·exact .inl ⟨u2,hagg cs u (by simpa only[ak] using hall) u3⟩
  exact .inr ⟨u2,y,rfl,hmap y u (hall y (by simp)) u4⟩
theorem eK {s:AS} {k d:Nat} (ty:TypeId) (es:Nat) (hes:0<es) (hd:s.H d=[]) (hk:s.tmps[k]?=some (.raw (.slice none 0 0))):cj s ⟨s.tmps.set k (.one (.sl d 0 0 0)),bs s.H d [⟨ty,es,[]⟩]⟩:=by
 rintro w0 O X a w ⟨h1,hsz,ρ,hinv,htm⟩;have htm:b7 X ρ s a w:=htm;obtain⟨v,v1,v2⟩:=htm k _ hk;have hv:=(bY v2).1;subst hv;have hnew: ∀(r b c:Nat),(fun _=>none:Nat->Option (Nat×Nat)) r=some (b,c)->w.heap.size<=b:=fun r b c h=>by cases h
 have hmono: ∀x u,AV.rel ρ s.H (Xo X ρ s.H) w x u->AV.rel (newρ ρ d fun _=>none) (bs s.H d [⟨ty,es,[]⟩]) (Xo X (newρ ρ d fun _=>none) (bs s.H d [⟨ty,es,[]⟩])) w x u:=fun x u h=>mD hinv (Ext.refl w) hd hnew h
 refine⟨h1,by simpa using hsz,newρ ρ d fun _=>none,⟨hinv.keep,fun a' r o ho=>?_,fun a' r a'' r' o o' b c c' ho ho' hr hr'=>?_,fun a' r o b c ho hr=>?_,hinv.bar,fun a' r o ho=>?_⟩,fun t x hx=>?_⟩
 ·by_cases ha:a'=d
  ·subst ha;simp only[bF]at ho;cases r with
   |succ r=>simp at ho
   |zero=>simp at ho;subst ho;exact⟨by simp,hes,by rw[newρ_eq]⟩
  simp only[bo ha]at ho;exact eJ (hinv.objs a' r o ho) (newρ_ne ha r) (fun b c hb=>rfl) hmono
 ·by_cases ha:a'=d
  ·subst ha;rw[newρ_eq]at hr;cases hr
  by_cases ha':a''=d
  ·subst ha';rw[newρ_eq]at hr';cases hr'
  rw[newρ_ne ha]at hr;rw[newρ_ne ha']at hr';simp only[bo ha]at ho;simp only[bo ha']at ho';exact hinv.inj a' r a'' r' o o' b c c' ho ho' hr hr'
 ·by_cases ha:a'=d
  ·subst ha;rw[newρ_eq]at hr;cases hr
  rw[newρ_ne ha]at hr;simp only[bo ha]at ho;exact hinv.old a' r o b c ho hr
 ·by_cases ha:a'=d
  ·subst ha;simp only[bF]at ho;cases r with
   |succ r=>simp at ho
   |zero=>simp at ho;subst ho;exact fun e he=>by simp at he
  simp only[bo ha]at ho;exact hinv.self a' r o ho
 by_cases hkt:k=t
 ·subst hkt;simp only[List.getElem?_set,if_true]at hx;split at hx
  ·injection hx with hx
   subst hx;exact⟨_,v1,⟨ty,es,[]⟩,by show(bs s.H d [⟨ty,es,[]⟩] d)[0]?=_;rw[bF];rfl,by simp,.inl ⟨by rw[newρ_eq],rfl,rfl,rfl⟩⟩
  cases hx
 simp only[List.getElem?_set_ne hkt]at hx;obtain⟨u,u1,u2⟩:=htm t x hx;exact⟨u,u1,TV.rel_map u2 hmono⟩
theorem nG {Y Z:Nat->Prop} {a r off len:Nat} {o:OObj} {v:Value} {F:AV->PV} (hob:objRel ρ H Y w a r o) (ho:(H a)[r]?=some o) (hcell: ∀e∈o.elems,∀x∈e,∀u,x.rel ρ H Y w u->cu Z w (F x) u) (hZb: ∀b c,ρ a r=some (b,c)-> ¬Z b)
  (h:AV.rel ρ H Y w (.sl a r off len) v):cu Z w (.sl (((o.elems.take (off+len)).drop off).map (List.map F))) v:=by
 obtain⟨o',g1,g2,g3⟩:=h;rw[ho]at g1;injection g1 with g1
 subst g1;obtain⟨q1,q2,q3⟩:=hob;have hl:(((o.elems.take (off+len)).drop off).map (List.map F)).length=len:=by simp;omega
 rcases g3 with⟨gr,gv,gl,go⟩|⟨b,c,cap,gr,gv,hcap,_⟩
 ·rw[List.length_eq_zero_iff.1 (hl.trans gl),gv];exact cu.nil _ _
 by_cases hl0:len=0
 ·rw[List.length_eq_zero_iff.1 (hl.trans hl0),gv,hl0];exact cu.nil _ _
 rw[gr]at q3;obtain⟨cells,p1,p2,p3,p4,p5⟩:=q3;have hsub: ∀(i:Nat) e,(((o.elems.take (off+len)).drop off).map (List.map F))[i]?=some e-> ∃e',o.elems[off+i]?=some e'/\e=e'.map F:=fun i e he=>by
  rw[aA]at he;obtain⟨e',he',rfl⟩:=Option.map_eq_some_iff.1 he;rw[List.getElem?_drop,List.getElem?_take]at he';split at he'
  ·exact⟨e',he',rfl⟩
  cases he'
 have hcl: ∀(i:Nat) e (j:Nat) x,(((o.elems.take (off+len)).drop off).map (List.map F))[i]?=some e->e[j]?=some x-> ∃u:Value,cells[(off+i)*o.es+j]?=some u/\cu Z w x u:=fun i e j x he hx=>by
  obtain⟨e',he',rfl⟩:=hsub i e he;rw[aA]at hx;obtain⟨x',hx',rfl⟩:=Option.map_eq_some_iff.1 hx;obtain⟨u,u1,u2,u3⟩:=p5 _ e' j x' he' hx';exact⟨u,u1,hcell e' (ax he') x' (ax hx') u u3⟩
 rw[gv];have:=cu.sl (X:=Z) (w:=w) b (off*o.es) o.es cap (((o.elems.take (off+len)).drop off).map (List.map F)) (fun i j=>(cells[(off+i)*o.es+j]?).getD undef) (hZb b c gr) (Array.getElem?_eq_some_iff.1 p1).1
  (fun e he=>by
   simp only[an]at he;obtain⟨e',he',rfl⟩:=he;rw[List.length_map];exact q1 e' (List.mem_of_mem_take (List.mem_of_mem_drop he'))) (by omega) (by omega)
  (fun i e j x he hx=>by
   obtain⟨u,u1,_⟩:=hcl i e j x he hx;rw[cell_of_row _ b _ cells o.ty (0,0) p1,<- Nat.add_mul,u1];rfl)
  (fun i e j x he hx=>by
   obtain⟨u,u1,u2⟩:=hcl i e j x he hx;simp only[u1,Option.getD_some];exact u2)
 rw[hl]at this;exact this
def jC (H:OH) (a:Nat):AV->PV
 | .p x=>x
 | .sl _ r off len=>match(H a)[r]? with
  |some o=> .sl (((o.elems.take (off+len)).drop off).map (List.map yd))
  |none=> .raw undef
 |_=> .raw undef
def fj (H:OH) (a:Nat):AV->AV
 | .sl b r off len=>if b=a then(match(H a)[r]? with
  |some o=> .p (.sl (((o.elems.take (off+len)).drop off).map (List.map (jC H a))))
  |none=> .junk)else .sl b r off len
 | .ptr b r i j=>if b=a then .junk else .ptr b r i j
 |x=>x
def gO (H:OH) (a:Nat):TV->TV
 | .one x=> .one (fj H a x)
 | .agg cs=> .agg (cs.map (fj H a))
 | .fn f cs=> .fn f (cs.map (fj H a))
 | .tup ts=> .tup (ts.map fun t=>(t.1,t.2.map (fj H a)))
def pz (o:OObj):Prop:= ∀e∈o.elems,∀x∈e,isPure x=true
def uU (H:OH) (a:Nat):Prop:= ∀(r:Nat) o,(H a)[r]?=some o-> ∀e∈o.elems,∀x∈e,isPure x=true\/ ∃r' off len o',x= .sl a r' off len/\(H a)[r']?=some o'/\pz o'
theorem bX {s:AS} (a:Nat) (hok:uU s.H a):cj s ⟨s.tmps.map (gO s.H a),bs s.H a []⟩:=by
 rintro w0 O X act w ⟨h1,hsz,ρ,hinv,htm⟩;have htm:b7 X ρ s act w:=htm;have hna: ∀(x y:Nat) o,(bs s.H a [] x)[y]?=some o->x≠a/\(s.H x)[y]?=some o:=fun x y o ho=>by
  by_cases hx:x=a
  ·subst hx;rw[bF]at ho;simp at ho
  rw[bo hx]at ho;exact⟨hx,ho⟩
 have hXo: ∀b,Xo X ρ (bs s.H a []) b->Xo X ρ s.H b:=fun b hb=>by
  rcases hb with hb|⟨x,y,o,n,g1,g2⟩
  ·exact .inl hb
  exact .inr ⟨x,y,o,n,(hna x y o g1).2,g2⟩
 have hZb: ∀(r:Nat) o,(s.H a)[r]?=some o-> ∀b c,ρ a r=some (b,c)-> ¬Xo X ρ (bs s.H a []) b:=fun r o ho b c hr hX=>by
  rcases hX with hX|⟨x,y,o',n,g1,g2⟩
  ·exact(hinv.old a r o b c ho hr).2 hX
  obtain⟨hx,g1'⟩:=hna x y o' g1;exact hx (hinv.inj x y a r o' o b n c g1' ho g2 hr).1
 have hpure: ∀x u,isPure x=true->AV.rel ρ s.H (Xo X ρ s.H) w x u->cu (Xo X ρ (bs s.H a [])) w (yd x) u:=fun x u hp h=>by
  cases x<;>first|exact cu.weaken (fun b _ hb=>hXo b hb) h|cases hp
 have hcell: ∀(r:Nat) o,(s.H a)[r]?=some o-> ∀e∈o.elems,∀x∈e,∀u,AV.rel ρ s.H (Xo X ρ s.H) w x u->cu (Xo X ρ (bs s.H a [])) w (jC s.H a x) u:=fun r o ho e he x hx u hu=>by
  rcases hok r o ho e he x hx with hp|⟨r',off,len,o',rfl,ho',hpr⟩
  ·have:=hpure x u hp hu;cases x<;>first|exact this|cases hp
  simp only[jC,ho'];exact nG (hinv.objs a r' o' ho') ho' (fun e he y hy u hu=>hpure y u (hpr e he y hy) hu) (hZb r' o' ho') hu
 have hmap: ∀x v,AV.rel ρ s.H (Xo X ρ s.H) w x v->AV.rel ρ (bs s.H a []) (Xo X ρ (bs s.H a [])) w (fj s.H a x) v:=fun x v h=>by
  cases x with
  |p x=>exact cu.weaken (fun b _ hb=>hXo b hb) h
  |sl b r off len=>
   simp only[fj];by_cases hb:b=a
   ·subst hb;rw[if_pos rfl];have h':=h;obtain⟨o,g1,g2,g3⟩:=h;rw[g1];exact nG (hinv.objs b r o g1) g1 (hcell r o g1) (hZb r o g1) h'
   rw[if_neg hb];obtain⟨o,g1,g2⟩:=h;exact⟨o,by rw[bo hb];exact g1,g2⟩
  |ptr b r i j=>
   simp only[fj];by_cases hb:b=a
   ·subst hb;rw[if_pos rfl];trivial
   rw[if_neg hb];obtain⟨o,b',c,g1,g2⟩:=h;exact⟨o,b',c,by rw[bo hb];exact g1,g2⟩
  |junk=>trivial
 have hagg: ∀cs v,b6 ρ s.H (Xo X ρ s.H) w cs v->b6 ρ (bs s.H a []) (Xo X ρ (bs s.H a [])) w (cs.map (fj s.H a)) v:=fun cs v h=>by
  obtain⟨vs,g1,g2,g3⟩:=h;refine⟨vs,g1,by simpa using g2,fun j x hx=>?_⟩;rw[aA]at hx;obtain⟨y,hy,rfl⟩:=Option.map_eq_some_iff.1 hx;obtain⟨u,u1,u2,u3⟩:=g3 j y hy;exact⟨u,u1,u2,hmap y u u3⟩
 refine⟨h1,by simpa using hsz,ρ,⟨hinv.keep,fun x y o ho=>?_,fun x y x' y' o o' b c c' ho ho'=>hinv.inj x y x' y' o o' b c c' (hna x y o ho).2 (hna x' y' o' ho').2,fun x y o b c ho=>hinv.old x y o b c (hna x y o ho).2,hinv.bar,fun x y o ho=>hinv.self x y o (hna x y o ho).2⟩,fun t x hx=>?_⟩
 ·obtain⟨hx,ho'⟩:=hna x y o ho;obtain⟨q1,q2,q3⟩:=hinv.objs x y o ho';refine⟨q1,q2,?_⟩;cases hr:ρ x y with
  |none=>rw[hr]at q3;exact q3
  |some bc=>
   obtain⟨b,c⟩:=bc;rw[hr]at q3;obtain⟨cells,p1,p2,p3,p4,p5⟩:=q3;refine⟨cells,p1,p2,p3,p4,fun i e j z he hz=>?_⟩;obtain⟨u,u1,u2,u3⟩:=p5 i e j z he hz;have hs:=hinv.self x y o ho' e (ax he) z (ax hz);have:=hmap z u u3;refine⟨u,u1,u2,?_⟩;cases z with
   |sl z _ _ _=>have hs:z=x:=hs;subst hs;simpa[fj,hx] using this
   |ptr z _ _ _=>have hs:z=x:=hs;subst hs;simpa[fj,hx] using this
   |p z=>exact this
   |junk=>trivial
 simp only[aA]at hx;obtain⟨y,hy,rfl⟩:=Option.map_eq_some_iff.1 hx;obtain⟨v,v1,v2⟩:=htm t y hy;refine⟨v,v1,?_⟩;cases y with
 |one x=>exact hmap x v v2
 |agg cs=>exact hagg cs v v2
 |fn f cs=>obtain⟨u,h1,h2⟩:=v2;exact⟨u,hagg cs u h1,h2⟩
 |tup ts=>
  obtain⟨vs,g1,g2,g3⟩:=v2;refine⟨vs,g1,by simpa using g2,fun j b cs hj=>?_⟩;rw[aA]at hj;obtain⟨z,hz,hzz⟩:=Option.map_eq_some_iff.1 hj;obtain⟨b',cs'⟩:=z;simp at hzz;obtain⟨rfl,rfl⟩:=hzz;obtain⟨u,u1,u2⟩:=g3 j b' cs' hz;refine⟨u,u1,?_⟩;rcases u2 with⟨u2,u3⟩|⟨u2,q,rfl,u4⟩
  ·exact .inl ⟨u2,hagg _ _ u3⟩
  exact .inr ⟨u2,_,rfl,hmap q u u4⟩
end
end
section
section
variable {P:Program} {s:AS} {Q:Exit->AS->Prop} {x y z:Code}
theorem aI (items:List (aW P)) (ow:List Nat) {id:Nat} {ops:Array Oper} (h: ∀K:AS->Prop,(∀s',bu P y Q s'->K s')->cz P (items.map aW.a) ow (bO ops ops.toList 0) (some s) K):bu P (.seq (.region id ops false) y) Q s:=
 aH (mZ items ow (h _ fun _ h=>h))
theorem ma (items:List (aW P)) (ow:List Nat) {id:Nat} {ops:Array Oper} (h: ∀K:AS->Prop,(∀s',Q .normal s'->K s')->cz P (items.map aW.a) ow (bO ops ops.toList 0) (some s) K):bu P (.region id ops false) Q s:=
 mZ items ow (h _ fun _ h=>h)
theorem aF {y:Code} {id:Nat} {ops:Array Oper} (h: ∀K:AS->Prop,(∀s',bu P y Q s'->K s')->cz P [] [] (bO ops ops.toList 0) (some s) K):bu P (.seq (.region id ops false) y) Q s:=aI [] [] h
theorem aN {id:Nat} {ops:Array Oper} (h: ∀K:AS->Prop,(∀s',Q .normal s'->K s')->cz P [] [] (bO ops ops.toList 0) (some s) K):bu P (.region id ops false) Q s:=ma [] [] h
theorem Kl {G:Type} (St:G->AS) (μ:G->Nat) (g0:G) {id:Nat} (h0:cj s (St g0))
  (round: ∀g,bu P x (lV (fun s'=> ∃g',μ g'<μ g/\cj s' (St g')) (n7 id (lV (bu P y Q) Q))) (St g)):bu P (.seq (.block id (.loop x)) y) Q s:=
 aH (aM (yv St μ g0 h0 round))
theorem aZ {G:Type} (St:G->AS) (μ:G->Nat) (g0:G) {id:Nat} (h0:cj s (St g0))
  (round: ∀g,bu P x (lV (fun s'=> ∃g',μ g'<μ g/\cj s' (St g')) (n7 id Q)) (St g)):bu P (.block id (.loop x)) Q s:=
 aM (yv St μ g0 h0 round)
theorem aT {n:Int} (h1: -9223372036854775808<=n) (h2:n<=9223372036854775807):IntKind.i64.wrap n=n:=IntWalk.i64_in _ (by omega)
theorem cX {n:Int} (h1:0<=n) (h2:n<18446744073709551616):IntKind.u64.wrap n=n:=by rw[IntKind.wrap_u64];omega
theorem D4 {n:Int} (h1:0<=n) (h2:n<4294967296):IntKind.u32.wrap n=n:=by rw[IntKind.wrap_u32];omega
end
end
section
def ls {α:Type} (f:α->List PV) (l:List α):List (List PV):=l.map f
def lc {α:Type} (f:α->List PV) (l:List α):List (List AV):=l.map fun x=>(f x).map AV.p
section
variable {α:Type} {f:α->List PV}
theorem ff (l:List α):(ls f l).length=l.length:=by simp[ls]
theorem BB (l:List α):(lc f l).length=l.length:=by simp[lc]
theorem gH (l:List α) (i:Nat):(ls f l)[i]?=(l[i]?).map f:=by simp[ls]
theorem BA (l:List α) (i:Nat):(lc f l)[i]?=(l[i]?).map fun x=>(f x).map AV.p:=by simp[lc]
theorem K3 (l:List α) (i:Nat):(ls f l).take i=ls f (l.take i):=by simp[ls]
theorem fP (l:List α) (i:Nat):(lc f l).take i=lc f (l.take i):=by simp[lc]
theorem xq (l:List α) (i:Nat):(lc f l).drop i=lc f (l.drop i):=by simp[lc]
theorem N3 (l:List α):(ls f l).map (List.map AV.p)=lc f l:=by simp[ls,lc]
theorem K5 (l:List PV):(l.map AV.p).map yd=l:=by rw[List.map_map];exact(List.map_congr_left (fun _ _=>rfl)).trans (List.map_id l)
theorem rK (l:List α):(lc f l).map (List.map yd)=ls f l:=by
 simp only[ls,lc,List.map_map];exact List.map_congr_left fun x _=>K5 (f x)
theorem gG (H:OH) (a:Nat) (l:List α):(lc f l).map (List.map (jC H a))=ls f l:=by
 simp only[ls,lc,List.map_map];refine List.map_congr_left fun x _=>?_
 show((f x).map AV.p).map (jC H a)=f x;rw[List.map_map];exact(List.map_congr_left (fun _ _=>rfl)).trans (List.map_id _)
theorem K1 (l:List α):((lc f l).all fun e=>e.all isPure)=true:=by
 simp[lc,isPure]
theorem Dr (x:α) (l:List α):ls f (x::l)=f x::ls f l:=rfl
theorem N2:ls f []=[]:=rfl
theorem xu (l:List α) (i:Nat) (x:α):(lc f l).set i ((f x).map AV.p)=lc f (l.set i x):=by simp[lc,List.map_set]
theorem BE {n:Nat} (hf: ∀x,(f x).length=n) (l:List α):(∀c∈ls f l,c.length=n)=True:=by
 simp only[eq_iff_iff,iff_true];intro c hc;obtain⟨x,_,rfl⟩:=List.mem_map.1 hc;exact hf x
theorem N1 {n:Nat} (hf: ∀x,(f x).length=n) (l:List α):(∀c∈lc f l,c.length=n)=True:=by
 simp only[eq_iff_iff,iff_true];intro c hc;obtain⟨x,_,rfl⟩:=List.mem_map.1 hc;rw[List.length_map];exact hf x
theorem xr (k:Nat->Nat->Bool) (l:List α):(lc f l).map (List.map (bA k))=lc f l:=by
 simp only[lc,List.map_map];refine List.map_congr_left fun x _=>?_
 show((f x).map AV.p).map (bA k)=_;rw[List.map_map];exact List.map_congr_left (fun _ _=>rfl)
theorem xt (d:Nat) (l:List α):(lc f l).map (List.map (dS d))=lc f l:=by
 simp only[lc,List.map_map];refine List.map_congr_left fun x _=>?_
 show((f x).map AV.p).map (dS d)=_;rw[List.map_map];exact List.map_congr_left (fun _ _=>rfl)
theorem E9 {z:Int} (h:0<=z):vY z=some z.toNat:=if_pos h
theorem d6 (t:TypeId) (n:Nat) (l:List α):pz ⟨t,n,lc f l⟩:=fun e he x hx=>by
 obtain⟨y,_,rfl⟩:=List.mem_map.1 he;obtain⟨z,_,rfl⟩:=List.mem_map.1 hx;rfl
theorem cJ {H:OH} {a:Nat} {t:TypeId} {n:Nat} {l:List α} (h:H a=[⟨t,n,lc f l⟩]):uU H a:=fun r o ho e he x hx=>by
 rw[h]at ho;cases r with
 |succ r=>simp at ho
 |zero=>simp at ho;subst ho;exact .inl (d6 t n l e he x hx)
end
theorem Nm {β:Type} (p:β->Prop):(∀e∈([]:List β),p e)=True:=by simp
theorem Ko {β:Type} (p:β->Prop) (x:β) (l:List β):(∀e∈x::l,p e)=(p x/\ ∀e∈l,p e):=by simp
theorem QS {c:Prop} [Decidable c] (h:c) {β:Type} (a b:β):(if c then a else b)=a:=if_pos h
theorem QR {c:Prop} [Decidable c] (h: ¬c) {β:Type} (a b:β):(if c then a else b)=b:=if_neg h
theorem Ql {c:Prop} [Decidable c] (h:c):decide c=true:=decide_eq_true h
theorem Qk {c:Prop} [Decidable c] (h: ¬c):decide c=false:=decide_eq_false h
def fU (n:Nat):List PV:=[.raw (.int .u32 (n:Int))]
theorem xj (n:Nat):(fU n).length=1:=rfl
def fI (z:Int):List PV:=[.raw (.int .i64 z)]
def fN (z:Nat):List PV:=[.raw (.int .i64 (z:Int))]
theorem tN {d:Nat} {t:TV} (h:noRefTV t=true):iM d t/\fA 0 t=t:=by
 have av: ∀x,fh x=true->dK d x/\dS 0 x=x:=fun x hx=>by cases x<;>first|exact⟨trivial,rfl⟩|cases hx
 cases t with
 |one x=>exact⟨(av x h).1,by simp only[fA,(av x h).2]⟩
 |agg cs=>
  simp only[noRefTV,ak]at h;exact⟨fun x hx=>(av x (h x hx)).1,by simp only[fA];congr 1;exact(List.map_congr_left fun x hx=>(av x (h x hx)).2).trans (List.map_id _)⟩
 |fn f cs=>
  simp only[noRefTV,ak]at h;exact⟨fun x hx=>(av x (h x hx)).1,by simp only[fA];congr 1;exact(List.map_congr_left fun x hx=>(av x (h x hx)).2).trans (List.map_id _)⟩
 |tup ts=>
  simp only[noRefTV,ak]at h;refine⟨fun t ht x hx=>(av x (h t ht x hx)).1,?_⟩;simp only[fA]
  congr 1
  refine(List.map_congr_left fun t ht=>?_).trans (List.map_id _);show(t.1,t.2.map (dS 0))=t;rw[(List.map_congr_left fun x hx=>(av x (h t ht x hx)).2).trans (List.map_id t.2)]
theorem ir (l:List Nat) (a:Nat):lc fU l++[[AV.p (.raw (.int .u32 (a:Int)))]]=lc fU (l++[a]):=by simp[lc,fU]
theorem Hu (l:List Int) (a:Int):lc fI l++[[AV.p (.raw (.int .i64 a))]]=lc fI (l++[a]):=by simp[lc,fI]
theorem mt (l:List Nat) (a:Nat):lc fN l++[[AV.p (.raw (.int .i64 (a:Int)))]]=lc fN (l++[a]):=by simp[lc,fN]
theorem pI {P:Program} {fn:Func} {s:AS} {r:TV} {d:Nat} (hd:s.H d=[]) (h:rt P s fn.results.toList=some r) (hp:noRefTV r=true):nP P fn ⟨[],r⟩ s:=
 ⟨r,d,h,FC (tN hp).1 hd,by rw[hd];rfl,(tN (d:=0) hp).2.symm⟩
theorem lI {P:Program} {fn:Func} {s:AS} {r:TV} (d:Nat) (hok:uU s.H d) (h:rt P ⟨s.tmps.map (gO s.H d),bs s.H d []⟩ fn.results.toList=some r) (hp:noRefTV r=true): ∃s',cj s s'/\nP P fn ⟨[],r⟩ s':=
 ⟨_,bX d hok,pI (d:=d) (by simp[bs]) h hp⟩
theorem aL {P:Program} {fn:Func} {s:AS} {r:TV} (hd:s.H 1000=[]) (h:rt P s fn.results.toList=some r) (hp:noRefTV r=true): ∃s',cj s s'/\nP P fn ⟨[],r⟩ s':=
 ⟨_,cj.refl _,pI hd h hp⟩
end
theorem Jx:wX Tryz.prog 92=some 4:=by kernel_rfl
theorem FM:kW Tryz.prog 122=some true:=by kernel_rfl
theorem L8:kW Tryz.prog 2=some false:=by kernel_rfl
theorem Jy:kW Tryz.prog 22=some false:=by kernel_rfl
theorem Jz:kW Tryz.prog 24=some true:=by kernel_rfl
theorem JA:kW Tryz.prog 25=some false:=by kernel_rfl
theorem L9:kW Tryz.prog 3=some false:=by kernel_rfl
theorem pW:kW Tryz.prog 30=some false:=by kernel_rfl
theorem pX:kW Tryz.prog 32=some true:=by kernel_rfl
theorem JB:kW Tryz.prog 34=some false:=by kernel_rfl
theorem JC:kW Tryz.prog 37=some false:=by kernel_rfl
theorem rZ:kW Tryz.prog 4=some false:=by kernel_rfl
theorem Ma:kW Tryz.prog 5=some false:=by kernel_rfl
theorem JD:kW Tryz.prog 56=some false:=by kernel_rfl
theorem JE:kW Tryz.prog 61=some false:=by kernel_rfl
theorem JF:kW Tryz.prog 92=some true:=by kernel_rfl
theorem FN:kY Tryz.prog 162=some (4,3):=by kernel_rfl
theorem JG:kY Tryz.prog 92=some (4,2):=by kernel_rfl
theorem uM:sJ Tryz.prog 3=false:=by kernel_rfl
theorem pY:sJ Tryz.prog 4=true:=by kernel_rfl
theorem OF:F0 Tryz.prog 2=some 8:=by kernel_rfl
theorem OG:F0 Tryz.prog 3=some 8:=by kernel_rfl
theorem Mb:F0 Tryz.prog 32=some 32:=by kernel_rfl
theorem Mc:F0 Tryz.prog 34=some 24:=by kernel_rfl
theorem Md:F0 Tryz.prog 37=some 24:=by kernel_rfl
theorem Me:F0 Tryz.prog 56=some 4:=by kernel_rfl
theorem Mf:F0 Tryz.prog 61=some 24:=by kernel_rfl
theorem Am:ji Tryz.prog 122 0=some (0,32):=by kernel_rfl
theorem An:ji Tryz.prog 122 1=some (2,32):=by kernel_rfl
theorem Cq:ji Tryz.prog 24 0=some (0,5):=by kernel_rfl
theorem Cr:ji Tryz.prog 24 1=some (1,5):=by kernel_rfl
theorem Cs:ji Tryz.prog 24 2=some (2,22):=by kernel_rfl
theorem lO:ji Tryz.prog 32 0=some (0,4):=by kernel_rfl
theorem lP:ji Tryz.prog 32 1=some (1,30):=by kernel_rfl
theorem Mg:uX Tryz.prog 2=some .i64:=by kernel_rfl
theorem Mh:uX Tryz.prog 3=some .i64:=by kernel_rfl
theorem Mi:uX Tryz.prog 5=some .u8:=by kernel_rfl
theorem JH:uX Tryz.prog 55=some .u64:=by kernel_rfl
theorem JI:uX Tryz.prog 56=some .u32:=by kernel_rfl
theorem FO:dB Tryz.prog 162=none:=by kernel_rfl
theorem JJ:dB Tryz.prog 92=none:=by kernel_rfl
theorem FP:nI Tryz.prog 122=some [(0,2),(2,2)]:=by kernel_rfl
theorem pZ:nI Tryz.prog 32=some [(0,1),(1,1)]:=by kernel_rfl
theorem JK:nI Tryz.prog 84=some [(0,1),(1,1)]:=by kernel_rfl
theorem JL:nI Tryz.prog 92=some []:=by kernel_rfl
theorem Ao:dB Tryz.prog 102=some 3:=by kernel_rfl
theorem Ap:dB Tryz.prog 107=some 37:=by kernel_rfl
theorem Ct:dB Tryz.prog 25=some 34:=by kernel_rfl
theorem lQ:dB Tryz.prog 30=some 56:=by kernel_rfl
theorem Cu:dB Tryz.prog 34=some 2:=by kernel_rfl
theorem Cv:dB Tryz.prog 37=some 61:=by kernel_rfl
theorem Cw:dB Tryz.prog 61=some 32:=by kernel_rfl
theorem JM:ju Tryz.prog 122=some 4:=by kernel_rfl
theorem OI:ju Tryz.prog 2=some 1:=by kernel_rfl
theorem Mj:ju Tryz.prog 22=some 1:=by kernel_rfl
theorem Mk:ju Tryz.prog 24=some 4:=by kernel_rfl
theorem Ml:ju Tryz.prog 25=some 1:=by kernel_rfl
theorem OJ:ju Tryz.prog 3=some 1:=by kernel_rfl
theorem r6:ju Tryz.prog 30=some 1:=by kernel_rfl
theorem r7:ju Tryz.prog 32=some 2:=by kernel_rfl
theorem Mm:ju Tryz.prog 34=some 1:=by kernel_rfl
theorem Mn:ju Tryz.prog 37=some 1:=by kernel_rfl
theorem yc:ju Tryz.prog 4=some 1:=by kernel_rfl
theorem OK:ju Tryz.prog 5=some 1:=by kernel_rfl
theorem Mo:ju Tryz.prog 56=some 1:=by kernel_rfl
theorem Mp:ju Tryz.prog 61=some 1:=by kernel_rfl
theorem Mq:ju Tryz.prog 92=some 4:=by kernel_rfl
theorem Cx:gM Tryz.prog 122=some [(.bool false),(.slice none 0 0),(.bool false),(.slice none 0 0)]:=by kernel_rfl
theorem JN:gM Tryz.prog 2=some [(.int .i64 0)]:=by kernel_rfl
theorem JO:gM Tryz.prog 3=some [(.int .i64 0)]:=by kernel_rfl
theorem nO:gM Tryz.prog 32=some [(.bool false),(.slice none 0 0)]:=by kernel_rfl
theorem FQ:gM Tryz.prog 34=some [(.slice none 0 0)]:=by kernel_rfl
theorem FR:gM Tryz.prog 37=some [(.slice none 0 0)]:=by kernel_rfl
theorem FS:gM Tryz.prog 56=some [(.int .u32 0)]:=by kernel_rfl
theorem FT:gM Tryz.prog 61=some [(.slice none 0 0)]:=by kernel_rfl
theorem FU:gM Tryz.prog 84=some [(.slice none 0 0),(.int .i64 0)]:=by kernel_rfl
theorem FV:gM Tryz.prog 92=some [(.int .i64 0),(.int .i64 0),(.int .i64 0),(.int .i64 0)]:=by kernel_rfl
theorem bj:Tryz.prog.follows .mixedOrders=true:=by kernel_rfl
def natV:List Nat->Nat
 |[]=>0
 |a::l=>a+4294967296*natV l
def Lmb (l:List Nat):Prop:= ∀a∈l,a<4294967296
def nX (l:List Nat):Prop:=l.getLast?≠some 0
def dI:List Nat->List Nat
 |[]=>[]
 |a::l=>match dI l with
  |[]=>if a=0 then[]else[a]
  |b::m=>a::b::m
theorem iw (x y:List Nat):natV (x++y)=natV x+4294967296^x.length*natV y:=by
 induction x with
 |nil=>simp[natV]
 |cons a l ih=>simp[natV,ih,Nat.pow_succ,Nat.mul_add,Nat.mul_assoc,Nat.add_assoc,Nat.mul_comm]
theorem fq {l:List Nat} (h:Lmb l):natV l<4294967296^l.length:=by
 induction l with
 |nil=>simp[natV]
 |cons a l ih=>
  have ha:=h a List.mem_cons_self;have:=ih (fun b hb=>h b (List.mem_cons_of_mem _ hb));rw[List.length_cons,Nat.pow_succ,natV];have h2:4294967296*(natV l+1)<=4294967296*4294967296^l.length:=Nat.mul_le_mul_left _ this;rw[Nat.mul_comm (4294967296^l.length)];omega
theorem Fc (l:List Nat):natV (dI l)=natV l:=by
 induction l with
 |nil=>rfl
 |cons a l ih=>
  unfold dI;split
  ·rename_i h;rw[h]at ih;simp[natV]at ih;split
   ·rename_i h0;simp[natV,<- ih,h0]
   simp[natV,<- ih]
  rename_i b m h;rw[h]at ih;simp[natV,<- ih]
theorem Jt (l:List Nat):nX (dI l):=by
 induction l with
 |nil=>simp[nX,dI]
 |cons a l ih=>
  unfold dI;split
  ·split
   ·simp[nX]
   rename_i h0;simp[nX,h0]
  rename_i b m h;rw[h]at ih;unfold nX at*
  rw[List.getLast?_cons_cons];exact ih
theorem Ju (l:List Nat):(dI l).length<=l.length:=by
 induction l with
 |nil=>simp[dI]
 |cons a l ih=>
  unfold dI;split
  ·split<;>simp
  rename_i b m h;rw[h]at ih;simp at ih⊢;omega
theorem oZ {a:Nat} {l:List Nat} (h:nX (a::l)):nX l:=by
 cases l with
 |nil=>simp[nX]
 |cons b m=>unfold nX at*;rw[List.getLast?_cons_cons]at h;exact h
theorem rm {l:List Nat} (h:nX l):dI l=l:=by
 induction l with
 |nil=>rfl
 |cons a l ih=>
  have e:=ih (oZ h);unfold dI;rw[e];cases l with
  |nil=>simp[nX]at h;simp[h]
  |cons b m=>rfl
theorem mW (l:List Nat):dI (l++[0])=dI l:=by
 induction l with
 |nil=>simp[dI]
 |cons a l ih=>rw[List.cons_append,dI,ih];rfl
theorem wE {l:List Nat} {a:Nat} (h:a≠0):dI (l++[a])=l++[a]:=rm (by simp[nX,h])
theorem Jv {l:List Nat} (h:Lmb l):Lmb (dI l):=by
 induction l with
 |nil=>exact h
 |cons a l ih=>
  have ih:=ih (fun b hb=>h b (List.mem_cons_of_mem _ hb));unfold dI;split
  ·split
   ·intro b hb;simp at hb
   intro b hb;simp at hb;subst hb;exact h _ List.mem_cons_self
  rename_i b m hh;rw[hh]at ih;intro c hc;rcases List.mem_cons.1 hc with rfl|hc
  ·exact h _ List.mem_cons_self
  exact ih c hc
theorem sV {l:List Nat} (h:nX l) (hne:l≠[]):4294967296^(l.length-1)<=natV l:=by
 induction l with
 |nil=>exact absurd rfl hne
 |cons a l ih=>
  cases l with
  |nil=>simp[nX]at h;simp[natV];omega
  |cons b m=>
   have:=ih (oZ h) (by simp);simp only[List.length_cons,Nat.add_sub_cancel]at this⊢;rw[natV,Nat.pow_succ,Nat.mul_comm (4294967296^m.length)];have h2:=Nat.mul_le_mul_left 4294967296 this;omega
theorem AU {l:List Nat} {k:Nat} (h:nX l) (hv:natV l<4294967296^k):l.length<=k:=by
 by_cases hne:l=[]
 ·subst hne;simp
 have:=sV h hne;have h2:4294967296^(l.length-1)<4294967296^k:=Nat.lt_of_le_of_lt this hv;have:=(Nat.pow_lt_pow_iff_right (by omega:1<4294967296)).1 h2;omega
theorem Kw {l m:List Nat} (hl:Lmb l) (hm:Lmb m) (cl:nX l) (cm:nX m) (h:natV l=natV m):l=m:=by
 induction l generalizing m with
 |nil=>
  cases m with
  |nil=>rfl
  |cons b m=>
   have:=sV cm (by simp);have:0<4294967296^((b::m).length-1):=Nat.pow_pos (by omega);rw[<- h]at*
   simp[natV]at*
 |cons a l ih=>
  cases m with
  |nil=>
   have:=sV cl (by simp);have:0<4294967296^((a::l).length-1):=Nat.pow_pos (by omega);rw[h]at*
   simp[natV]at*
  |cons b m=>
   have ha:=hl a List.mem_cons_self;have hb:=hm b List.mem_cons_self;simp only[natV]at h;have e1:a=b:=by omega
   have e2:natV l=natV m:=by omega
   rw[e1,ih (fun c hc=>hl c (List.mem_cons_of_mem _ hc)) (fun c hc=>hm c (List.mem_cons_of_mem _ hc)) (oZ cl) (oZ cm) e2]
def Kh (w:World) (A:Option Addr) (l:List Nat):Prop:=RdI .u32 w A (l.map fun n:Nat=>(n:Int))
theorem Kh.ext {w w':World} {A:Option Addr} {l:List Nat} (h:Kh w A l) (e:Ext w w'):Kh w' A l:=RdI.ext h e
theorem Kh.nil (w:World) (A:Option Addr):Kh w A []:=RdI.nil _ _ _
theorem Kh.at_ {w:World} {A:Option Addr} {l:List Nat} (h:Kh w A l) {i z:Nat} (hi:l[i]?=some z):
  ∃b off,A=some ⟨b,off,none⟩/\w.cell? ⟨b,off+i,none⟩=some (.int .u32 (z:Int)):=RdI.at_ h (by simp[hi])
def fD (neg:Bool) (n:Nat):Int:=if neg then -(n:Int)else n
def ym (w:World) (v:Value) (z:Int) (k:Nat):Prop:=
 ∃neg A c l,v= .agg #[.bool neg,.slice A l.length c]/\l.length<=c/\Kh w A l/\Lmb l/\nX l/\z=fD neg (natV l)/\l.length<=k/\(l=[]->neg=false)
theorem ym.ext {w w':World} {v:Value} {z:Int} {k:Nat} (h:ym w v z k) (e:Ext w w'):ym w' v z k:=by
 obtain⟨neg,A,c,l,h1,h2,h3,h4⟩:=h;exact⟨neg,A,c,l,h1,h2,h3.ext e,h4⟩
theorem ym.mono {w:World} {v:Value} {z:Int} {k k':Nat} (h:ym w v z k) (e:k<=k'):ym w v z k':=by
 obtain⟨neg,A,c,l,h1,h2,h3,h4,h5,h6,h7,h8⟩:=h;exact⟨neg,A,c,l,h1,h2,h3,h4,h5,h6,by omega,h8⟩
theorem ym.zero (w:World) (k:Nat):ym w (.agg #[.bool false,.slice none 0 0]) 0 k:=
 ⟨false,none,0,[],rfl,by simp,Kh.nil _ _,by intro a h;simp at h,by simp[nX],rfl,by simp,fun _=>rfl⟩
def lY:List Int->List Int->Int
 |[],[]=>0
 |[],_::_=> -1
 |_::_,[]=>1
 |a::x,b::y=>if a<b then -1 else if b<a then 1 else lY x y
theorem Ev {x y:List Int} {k:Nat} {a b:Int} (ha:x[k]?=some a) (hb:y[k]?=some b):
  lY (x.drop k) (y.drop k)=if a<b then -1 else if b<a then 1 else lY (x.drop (k+1)) (y.drop (k+1)):=by
 obtain⟨h1,rfl⟩:=List.getElem?_eq_some_iff.1 ha;obtain⟨h2,rfl⟩:=List.getElem?_eq_some_iff.1 hb;rw[List.drop_eq_getElem_cons h1,List.drop_eq_getElem_cons h2];rfl
theorem Ew {x y:List Int} {k:Nat} (h1:k>=x.length) (h2:k<y.length):lY (x.drop k) (y.drop k)= -1:=by
 rw[List.drop_of_length_le h1,List.drop_eq_getElem_cons h2];rfl
theorem AW {x y:List Int} {k:Nat} (h1:k<x.length) (h2:k>=y.length):lY (x.drop k) (y.drop k)=1:=by
 rw[List.drop_of_length_le h2,List.drop_eq_getElem_cons h1];rfl
theorem Eu {x y:List Int} {k:Nat} (h1:k>=x.length) (h2:k>=y.length):lY (x.drop k) (y.drop k)=0:=by
 rw[List.drop_of_length_le h1,List.drop_of_length_le h2];rfl
theorem Pt {a b:Int} {r:Int} (h:(a !=b)=true) (h':a<b): -1=if a<b then -1 else if b<a then 1 else r:=by simp[h']
theorem Ps {a b:Int} {r:Int} (h:(a !=b)=true) (h': ¬a<b):1=if a<b then -1 else if b<a then 1 else r:=by
 have:a≠b:=by simpa using h
 rw[if_neg h',if_pos (by omega)]
theorem KN {a b:Int} {r:Int} (h:(a !=b)=false):(if a<b then -1 else if b<a then 1 else r)=r:=by
 have:a=b:=by simpa using h
 rw[if_neg (by omega),if_neg (by omega)]
theorem ug (A B:Option Addr) (c d:Nat) (x y:List Int) (w:World) (hx:RdI .i64 w A x) (hy:RdI .i64 w B y) (lx:x.length<=9223372036854775807) (ly:y.length<=9223372036854775807):
  Calls Tryz.prog 15 #[.slice A x.length c,.slice B y.length d] w fun e w'=>e= .returned (.int .i64 (lY x y))/\ ∃n,w'=w.drewN n:=by
 have HX:=Lib.hid hx;have HY:=Lib.hid hy;clear hx hy
 go_enter Tryz.func15,Tryz.ntmps15
 go_wp2_with fail
 go_loopw [5] (fun i wr=> ∃k n:Nat,k<=x.length/\k<=y.length/\i= .int .i64 k/\wr=w.drewN n/\Hid (lY (x.drop k) (y.drop k)=lY x y)) (fun i _=>x.length-(intOf i).toNat)
 case atStart=>exact⟨0,0,Nat.zero_le _,Nat.zero_le _,rfl,rfl,Lib.hid rfl⟩
 case round=>
  obtain⟨k,n,hk,hky,rfl,rfl,HR⟩:=hrel;by_cases hlt:k<x.length
  ·obtain⟨a,ha⟩:=getElem?_of_lt hlt;obtain⟨b,off,rfl,hc⟩:=HX.out.at_ ha;have HA:=Lib.hid ha;clear ha;by_cases hly:k<y.length
   ·obtain⟨a',ha'⟩:=getElem?_of_lt hly;obtain⟨b',off',rfl,hc'⟩:=HY.out.at_ ha';have HA':=Lib.hid ha';clear ha';have hD:=Lib.hid (Ev HA.out HA'.out)
    go_wp2_with fail
    go_quiet (fail)
    go_wp2_with fail
    ·go_quiet (fail)
     have hne:(a !=a')=true:=by assumption
     go_wp2_with fail
     all_goals
      go_ret
      exact⟨rT (by rw[<- HR.out,hD.out];first|exact Pt hne (by omega)|exact Ps hne (by omega)),_,by rw[World.drewN_drewN,World.drewN_drewN]⟩
    have he:(a !=a')=false:=by assumption
    go_roundw
    case rel=>exact⟨k+1,_,by omega,by omega,by go_num,rfl,Lib.hid (by rw[<- HR.out,hD.out];exact(KN he).symm)⟩
    case measure=>simp[intOf];omega
   go_wp2_with fail
   all_goals
    go_ret
    exact⟨rT (by rw[<- HR.out,AW hlt (by omega)]),_,rfl⟩
  by_cases hly:k<y.length
  ·go_wp2_with fail
   all_goals
    go_ret
    exact⟨rT (by rw[<- HR.out,Ew (by omega) (by omega)]),_,rfl⟩
  go_wp2_with fail
  all_goals
   go_ret
   exact⟨rT (by rw[<- HR.out,Eu (by omega) (by omega)]),_,rfl⟩
theorem pF {P:Program} {id:Nat} {Q:Exit->Act->World->Prop} {a:Act} {w:World} {l:List Oper} (n:Nat) (hm:P.follows .mixedOrders=true) (hB:Region.lexTailB .any l.toArray n=true)
  (h:wpStill P l.toArray w.drew (fun a'=>wpList P l.toArray Q (l.drop n) a' w.drew) (l.take n) a):(Code.region id l.toArray true).wp P Q a w:=wp_region_still_tail n hm hB h
theorem Tryz.inU32:(Tryz.prog.info? 56).map (fun i=>(i.zero,i.size,i.bytes))=some (some (.int .u32 0),1,4):=by kernel_rfl
def sg (z:Int):Int:=if z<0 then -1 else if z=0 then 0 else 1
theorem wF (u:Nat):natV [u%4294967296,u/4294967296]=u:=by simp[natV];omega
def fB (a b:Nat):Int:=if a<b then -1 else if a=b then 0 else 1
theorem tH {l:List Nat} {k a:Nat} (h:l[k]?=some a):natV l=natV (l.take k)+4294967296^k*(a+4294967296*natV (l.drop (k+1))):=by
 have hk:=(List.getElem?_eq_some_iff.1 h).1
 conv=>lhs;rw[<- List.take_append_drop k l]
 rw[iw,List.length_take,Nat.min_eq_left (by omega),List.drop_eq_getElem_cons hk,natV,(List.getElem?_eq_some_iff.1 h).2]
theorem Hx {l:List Nat} (h:Lmb l) (k:Nat):Lmb (l.take k):=fun a ha=>h a (List.mem_of_mem_take ha)
theorem lF {l m:List Nat} {k a b:Nat} (hl:Lmb l) (ha:l[k]?=some a) (hb:m[k]?=some b) (hd:l.drop (k+1)=m.drop (k+1)) (hab:a<b):natV l<natV m:=by
 have hk:=(List.getElem?_eq_some_iff.1 ha).1;rw[tH ha,tH hb,hd];have h1:=fq (Hx hl k);rw[List.length_take,Nat.min_eq_left (by omega)]at h1;have h2:4294967296^k*(a+1+4294967296*natV (m.drop (k+1)))<=4294967296^k*(b+4294967296*natV (m.drop (k+1))):=Nat.mul_le_mul_left _ (by omega);have e:4294967296^k*(a+1+4294967296*natV (m.drop (k+1)))=4294967296^k+4294967296^k*(a+4294967296*natV (m.drop (k+1))):=by grind
 omega
theorem iz {l m:List Nat} (hl:Lmb l) (hm:nX m) (h:l.length<m.length):natV l<natV m:=by
 have h1:=fq hl;have h2:=sV hm (by intro e;rw[e]at h;simp at h);have h3:4294967296^l.length<=4294967296^(m.length-1):=Nat.pow_le_pow_right (by omega) (by omega);omega
theorem ng {a b:Nat} (h:a<b):fB a b= -1:=by simp[fB,h]
theorem rF {a b:Nat} (h:b<a):fB a b=1:=by unfold fB;rw[if_neg (by omega),if_neg (by omega)]
theorem vF {l m:List Nat} {k a:Nat} (ha:l[k]?=some a) (hb:m[k]?=some a) (hd:l.drop (k+1)=m.drop (k+1)):l.drop k=m.drop k:=by
 obtain⟨h1,rfl⟩:=List.getElem?_eq_some_iff.1 ha;obtain⟨h2,h3⟩:=List.getElem?_eq_some_iff.1 hb;rw[List.drop_eq_getElem_cons h1,List.drop_eq_getElem_cons h2,hd,h3]
section
def fC (H:OH):AV->Prop
 | .sl a _ _ _=>H a≠[]
 | .ptr a _ _ _=>H a≠[]
 |_=>True
def f4 (H:OH):TV->Prop
 | .one x=>fC H x
 | .agg cs=> ∀x∈cs,fC H x
 | .fn _ cs=> ∀x∈cs,fC H x
 | .tup ts=> ∀t∈ts,∀x∈t.2,fC H x
def oS (s:AS):Prop:=(∀(t:Nat) x,s.tmps[t]?=some x->f4 s.H x)/\ ∀a,∀o∈s.H a,selfO a o
section
variable {P:Program} {s s':AS} {H:OH}
theorem jH {w0 w:World} {O X:Nat->Prop} {a:Act} (h:gu w0 O X s a w):oS s:=by
 obtain⟨_,_,ρ,hinv,htm⟩:=h;have av: ∀x v,AV.rel ρ s.H (Xo X ρ s.H) w x v->fC s.H x:=fun x v hx=>by
  cases x with
  |p x=>trivial
  |sl a r off len=>obtain⟨o,h1,_⟩:=hx;intro h0;rw[h0]at h1;simp at h1
  |ptr a r i j=>obtain⟨o,_,_,h1,_⟩:=hx;intro h0;rw[h0]at h1;simp at h1
  |junk=>trivial
 have agg: ∀cs v,b6 ρ s.H (Xo X ρ s.H) w cs v-> ∀x∈cs,fC s.H x:=fun cs v hc x hx=>by
  obtain⟨vs,_,_,h3⟩:=hc;obtain⟨k,hk,rfl⟩:=List.getElem_of_mem hx;obtain⟨u,_,_,h4⟩:=h3 k _ (aw hk);exact av _ _ h4
 refine⟨fun t x hx=>?_,fun a o ho=>?_⟩
 ·obtain⟨v,_,hv⟩:=htm t x hx;cases x with
  |one x=>exact av x v hv
  |agg cs=>exact agg cs v hv
  |fn f cs=>obtain⟨u,h1,h2⟩:=hv;exact agg cs u h1
  |tup ts=>
   obtain⟨vs,_,_,h3⟩:=hv;intro t ht x hx;obtain⟨k,hk,rfl⟩:=List.getElem_of_mem ht;obtain⟨u,_,h4⟩:=h3 k _ _ (aw hk);rcases h4 with⟨_,h4⟩|⟨_,y,h5,h4⟩
   ·exact agg _ _ h4 x hx
   have h5:ts[k].2=[y]:=h5;rw[h5]at hx;simp at hx;subst hx;exact av _ _ h4
 obtain⟨k,hk,rfl⟩:=List.getElem_of_mem ho;exact hinv.self a k _ (aw hk)
theorem d9 (h:oS s) {x:Operand} {t:TV} (hx:s.ev x=some t):f4 s.H t:=by
 cases x with
 |tmp k=>exact h.1 k t hx
 |const v=>
  simp only[AS.ev]at hx;injection hx with hx
  subst hx;unfold nE;split
  ·split
   ·intro y hy;simp only[an]at hy;obtain⟨u,_,rfl⟩:=hy;trivial
   trivial
  split<;>trivial
 |global g=>simp only[AS.ev]at hx;injection hx with hx;subst hx;trivial
 |func f=>simp only[AS.ev]at hx;injection hx with hx;subst hx;trivial
theorem kC (h:oS s) {d:Option Tmp} {t:TV} (ht:f4 s.H t):oS (s.put d t):=by
 refine⟨fun k x hx=>?_,by rw[jp];exact h.2⟩;rw[jp];cases d with
 |none=>exact h.1 k x hx
 |some d=>
  simp only[AS.put]at hx;by_cases hk:d=k
  ·subst hk;rw[List.getElem?_set]at hx;simp at hx;obtain⟨_,rfl⟩:=hx;exact ht
  rw[List.getElem?_set_ne hk]at hx;exact h.1 k x hx
theorem ED (h:oS s) {op:Op} {t:TV} (ht:jh P s.ev op=some t):f4 s.H t:=by
 cases op<;>simp only[jh]at ht<;>try cases ht
 case call c=>
  unfold Pr at ht;split at ht
  ·obtain⟨k,k',a,b,_,rfl⟩:=kt ht;trivial
  ·obtain⟨k,k',a,b,_,rfl⟩:=kt ht;trivial
  cases ht
 case move x=>exact d9 h ht
 case assign x=>exact d9 h ht
 case pick c a b=>
  split at ht
  ·exact d9 h ht
  ·exact d9 h ht
  cases ht
 case binOp op ty x y yt=>
  split at ht
  ·unfold v8 at ht;split at ht
   ·injection ht with ht;subst ht;trivial
   ·injection ht with ht;subst ht;trivial
   cases ht
  split at ht
  ·obtain⟨v,_,rfl⟩:=Option.map_eq_some_iff.1 ht;trivial
  ·unfold vH at ht;split at ht
   ·split at ht
    ·injection ht with ht;subst ht;trivial
    cases ht
   ·split at ht
    ·injection ht with ht;subst ht;trivial
    cases ht
   cases ht
  cases ht
 case unOp op ty x=>
  split at ht
  ·obtain⟨v,_,rfl⟩:=Option.map_eq_some_iff.1 ht;trivial
  cases ht
 case convert a b x=>
  split at ht
  ·injection ht with ht;subst ht;trivial
  cases ht
 case extract x k=>
  split at ht
  ·rename_i ts hx;have hl:=d9 h hx;split at ht
   ·rename_i cs hk;injection ht with ht
    subst ht;exact hl _ (ax hk)
   ·rename_i y hk;injection ht with ht
    subst ht;exact hl _ (ax hk) y (by simp)
   cases ht
  cases ht
theorem nH {t:TypeId} {cs:List AV} {T:TV} (h:packT P t cs=some T) (hc: ∀x∈cs,fC H x):f4 H T:=by
 unfold packT at h;split at h
 ·split at h
  ·injection h with h;subst h;exact fun x hx=>hc x (List.mem_of_mem_take hx)
  cases h
 ·split at h
  ·injection h with h;subst h;exact hc _ (by simp)
  cases h
 cases h
theorem w9 {t:TV} {cs:List AV} (h:cellsOf t=some cs) (ht:f4 H t): ∀x∈cs,fC H x:=by
 unfold cellsOf at h;split at h
 ·injection h with h;subst h;intro x hx;simp at hx;subst hx;trivial
 ·injection h with h;subst h;exact ht
 cases h
theorem vJ (h:oS s) {pl:List (Nat×Nat)}: ∀(parts:List (Nat×Operand)) (cs cs':List AV),ip pl s.ev cs parts=some cs'->(∀x∈cs,fC s.H x)-> ∀x∈cs',fC s.H x
 |[],cs,cs',hf,hc=>by simp only[ip]at hf;injection hf with hf;subst hf;exact hc
 |(f,x)::rest,cs,cs',hf,hc=>by
  simp only[ip]at hf;split at hf
  ·rename_i off n ys hp hx;obtain⟨t,ht,hys⟩:=Option.bind_eq_some_iff.1 hx;split at hf
   ·refine vJ h rest _ cs' hf fun y hy=>?_
    simp only[List.mem_append]at hy;rcases hy with(hy|hy)|hy
    ·exact hc y (List.mem_of_mem_take hy)
    ·exact w9 hys (d9 h ht) y hy
    exact hc y (List.mem_of_mem_drop hy)
   cases hf
  cases hf
theorem FD (h:oS s) {a r i:Nat} {o:OObj} {e:List AV} (ho:(s.H a)[r]?=some o) (he:o.elems[i]?=some e): ∀x∈e,fC s.H x:=fun x hx=>by
 have hs:=h.2 a o (ax ho) e (ax he) x hx;have hne:s.H a≠[]:=by intro h0;rw[h0]at ho;simp at ho
 cases x with
 |sl b _ _ _=>have hs:b=a:=hs;subst hs;exact hne
 |ptr b _ _ _=>have hs:b=a:=hs;subst hs;exact hne
 |p x=>trivial
 |junk=>trivial
theorem EE (h:oS s) {op:Op} {t:TV} (ht:ca P s.ev s.H op=some t):f4 s.H t:=by
 cases op
 case load ty x=>
  simp only[ca]at ht;split at ht
  ·exact nH ht (fun y hy=>by simp only[an]at hy;obtain⟨z,_,rfl⟩:=hy;trivial)
  ·split at ht
   ·rename_i o ho;split at ht
    ·rename_i e he;exact nH ht (fun y hy=>FD h ho he y (List.mem_of_mem_drop hy))
    cases ht
   cases ht
  cases ht
 case indexAddr ty x ix=>
  simp only[ca]at ht;split at ht
  ·split at ht
   ·cases ht
   split at ht
   ·split at ht
    ·split at ht
     ·injection ht with ht;subst ht;trivial
     cases ht
    cases ht
   ·rename_i e a r off len hs hx;split at ht
    ·split at ht
     ·injection ht with ht;subst ht;have q:=d9 h hx;exact q
     cases ht
    cases ht
   ·split at ht
    ·split at ht
     ·split at ht
      ·injection ht with ht;subst ht;trivial
      cases ht
     cases ht
    cases ht
   ·rename_i hx;split at ht
    ·split at ht
     ·split at ht
      ·injection ht with ht;subst ht;have q:=d9 h hx;exact q
      cases ht
     cases ht
    cases ht
   ·split at ht
    ·split at ht
     ·split at ht
      ·injection ht with ht;subst ht;trivial
      cases ht
     cases ht
    cases ht
   cases ht
  cases ht
 case index ty x ix=>
  simp only[ca]at ht;split at ht
  ·split at ht
   ·cases ht
   split at ht
   ·rename_i hx;split at ht
    ·split at ht
     ·exact nH ht (fun y hy=>d9 h hx y (List.mem_of_mem_drop hy))
     cases ht
    cases ht
   cases ht
  cases ht
 case fieldAddr ty x f=>
  simp only[ca]at ht;split at ht
  ·split at ht
   ·injection ht with ht;subst ht;trivial
   cases ht
  ·rename_i hx;split at ht
   ·injection ht with ht;subst ht;have q:=d9 h hx;exact q
   cases ht
  cases ht
 case field ty x f=>
  simp only[ca]at ht;split at ht
  ·rename_i hx;exact nH ht (fun y hy=>d9 h hx y (List.mem_of_mem_drop hy))
  cases ht
 case slice ty x lo hi mx=>
  cases mx with
  |some mx=>
   cases lo with
   |none=>simp only[ca]at ht;cases ht
   |some lo=>
   cases hi with
   |none=>simp only[ca]at ht;cases ht
   |some hi=>
   simp only[ca]at ht;split at ht
   ·rename_i hx;split at ht
    ·split at ht
     ·injection ht with ht;subst ht;have q:=d9 h hx;exact q
     cases ht
    cases ht
   cases ht
  |none=>
   simp only[ca]at ht;split at ht
   ·split at ht
    ·split at ht
     ·injection ht with ht;subst ht;trivial
     cases ht
    cases ht
   ·rename_i hx;split at ht
    ·split at ht
     ·injection ht with ht;subst ht;have q:=d9 h hx;exact q
     split at ht
     ·injection ht with ht;subst ht;trivial
     cases ht
    cases ht
   cases ht
 case build ty parts=>
  simp only[ca]at ht;split at ht
  ·split at ht
   ·obtain⟨cs,hcs,rfl⟩:=Option.map_eq_some_iff.1 ht;exact vJ h _ _ _ hcs (fun y hy=>by simp only[an]at hy;obtain⟨z,_,rfl⟩:=hy;trivial)
   cases ht
  cases ht
 case nilCheck x=>
  simp only[ca]at ht;split at ht
  ·injection ht with ht;subst ht;trivial
  ·rename_i hx;injection ht with ht;subst ht;have q:=d9 h hx;exact q
  cases ht
 case makeFunc fn first captured=>
  cases fn with
  |func f=>
   simp only[ca]at ht;split at ht
   ·obtain⟨cs,hcs,rfl⟩:=Option.map_eq_some_iff.1 ht;obtain⟨ts,hts,hc⟩:=Option.bind_eq_some_iff.1 hcs;intro x hx;obtain⟨j,hj,rfl⟩:=List.getElem_of_mem hx;obtain⟨h1,h2⟩:=(oc hc).2 j _ (aw hj);obtain⟨y,y1,y2⟩:=(dH hts).2 j _ h1;have q:=d9 h y2;exact q
   cases ht
  |_=>simp only[ca]at ht;cases ht
 case call c=>
  obtain⟨callee,args,argTypes⟩:=c;cases callee with
  |builtin b=>
   cases b
   case len=>
    simp only[ca]at ht;split at ht
    ·split at ht
     ·injection ht with ht;subst ht;trivial
     ·injection ht with ht;subst ht;trivial
     ·injection ht with ht;subst ht;trivial
     cases ht
    cases ht
   all_goals (simp only[ca]at ht;cases ht)
  |value f=>simp only[ca]at ht;cases ht
  |invoke r m=>simp only[ca]at ht;cases ht
 all_goals (simp only[ca]at ht;cases ht)
end
end
end Go.Proofs.YtiollbhgpiiodaaGreatDoor
