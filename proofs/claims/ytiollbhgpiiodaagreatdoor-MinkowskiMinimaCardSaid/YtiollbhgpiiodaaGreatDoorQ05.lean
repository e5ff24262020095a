/-
  Part 6 of a proof (walks and plain facts).
-/
import Derived.Test.YtiollbhgpiiodaaGreatDoorQ04
import Derived.StillTailTactics
import Derived.Sort.Grow
import Derived.Deep.DeepFit
set_option linter.all false
set_option maxRecDepth 100000
set_option maxHeartbeats 64000000
open List renaming all_eq_true → ai
open List renaming mem_map → ak
open List renaming getElem?_eq_getElem → au
open List renaming mem_of_getElem? → aw
open List renaming getElem?_map → az
namespace Go.Proofs.YtiollbhgpiiodaaGreatDoor
open Go.RowKit
section
structure Si where
 i:Nat
 d:Option Tmp
 op:Op
 g:Option (Tmp×Bool)
def Cx (ops:Array Oper) (o:Oper) (i:Nat):Si:=match o.guard with
 |none=>⟨i,o.dst,o.op,none⟩
 |some (g,want)=>match(ops[g]?).bind (·.dst)with
  |some d=>⟨i,o.dst,o.op,some (d,want)⟩
  |none=>⟨i,none,.extract (.func 0) 0,none⟩
def aY (ops:Array Oper):List Oper->Nat->List Si
 |[],_=>[]
 |o::l,i=>Cx ops o i::aY ops l (i+1)
section
variable (P:Program) (items:List (dD P)) (ow:List Nat)
noncomputable def Vm (i : Nat) (d : Option Tmp) (op : Op) (s : AS) : Option AS := eI P items ow i ⟨d, op, 0, "", #[], none⟩ s
noncomputable def dW:Si->AS->Option AS
 |⟨i,d,op,none⟩,s=>Vm P items ow i d op s
 |⟨i,d,op,some (k,want)⟩,s=>match s.tmps[k]? with
  |some (.one (.p (.raw (.bool b))))=>if b=want then Vm P items ow i d op s else some (s.put d .undef)
  |some (.tup [])=>some (s.put d .undef)
  |_=>none
noncomputable def bD:List Si->Option AS->(AS->Prop)->Prop
 |_,none,_=>False
 |[],some s,Q=>Q s
 |st::l,some s,Q=>bD l (dW P items ow st s) Q
theorem JF (l:List Si) (Q:AS->Prop):bD P items ow l none Q=False:=by cases l<;>rfl
theorem M8 (s:AS) (Q:AS->Prop):bD P items ow [] (some s) Q=Q s:=rfl
theorem yB (st:Si) (l:List Si) (s:AS) (Q:AS->Prop):bD P items ow (st::l) (some s) Q=bD P items ow l (dW P items ow st s) Q:=rfl
theorem uW (i : Nat) (o : Oper) (s : AS) : eI P items ow i ⟨o.dst, o.op, 0, "", #[], none⟩ s = eI P items ow i o s := rfl
theorem xH {i:Nat} {o:Oper} {s s1:AS} (hs:eI P items ow i o s=some s1):s1.tmps.length=s.tmps.length:=by
 unfold eI at hs;split at hs
 ·obtain⟨t,_,rfl⟩:=Option.map_eq_some_iff.1 hs;exact gB _ _ _
 split at hs
 ·obtain⟨t,_,rfl⟩:=Option.map_eq_some_iff.1 hs;exact gB _ _ _
 split at hs
 ·injection hs with hs;subst hs;rw[gB];simp
 split at hs
 ·cases hs
 split at hs
 ·injection hs with hs;subst hs;exact gB _ _ _
 ·split at hs
  ·injection hs with hs;subst hs;rw[gB]
  cases hs
 cases hs
theorem JP {ops:Array Oper} {o:Oper} {i:Nat} {s s1:AS} (h:dW P items ow (Cx ops o i) s=some s1):bZ P items ow ops i o s=some s1/\s1.tmps.length=s.tmps.length:=by
 unfold Cx at h;unfold bZ;cases hg:o.guard with
 |none=>
  rw[hg]at h;simp only[dW,Vm,uW]at h;exact⟨h,xH P items ow h⟩
 |some gw=>
  obtain⟨g,want⟩:=gw;rw[hg]at h;simp only at h⊢;cases hd:(ops[g]?).bind (·.dst)with
  |none=>
   rw[hd]at h;cases h
  |some d=>
   rw[hd]at h;simp only[dW,Vm,uW]at h;simp only;split at h
   ·rename_i b hb;rw[hb];simp only;split at h
    ·rename_i hbw;rw[if_pos hbw];exact⟨h,xH P items ow h⟩
    rename_i hbw;rw[if_neg hbw];exact⟨h,by injection h with h;subst h;exact gB _ _ _⟩
   ·rename_i hb;rw[hb];exact⟨h,by injection h with h;subst h;exact gB _ _ _⟩
   cases h
theorem bK (ops:Array Oper): ∀(l:List Oper) (i:Nat) (s:AS) (Q:AS->Prop),bD P items ow (aY ops l i) (some s) Q-> ∃s',jq P items ow ops (l.zipIdx i) s=some s'/\Q s'
 |[],i,s,Q,h=>⟨s,rfl,h⟩
 |o::l,i,s,Q,h=>by
  simp only[aY,yB]at h;simp only[List.zipIdx_cons,jq];cases hs:dW P items ow (Cx ops o i) s with
  |none=>rw[hs,JF]at h;exact h.elim
  |some s1=>
   rw[hs]at h;obtain⟨h1,h2⟩:=JP P items ow hs;rw[h1];exact bK ops l (i+1) s1 Q h
variable {P}
theorem ov (items:List (aM P)) (ow:List Nat) {id:Nat} {ops:Array Oper} {s:AS} {Q:Exit->AS->Prop} (h:bD P (items.map aM.a) ow (aY ops ops.toList 0) (some s) (Q .normal)):bL P (.region id ops false) Q s:=by
 obtain⟨s',h1,h2⟩:=bK P (items.map aM.a) ow ops ops.toList 0 s (Q .normal) h;exact DG _ (aM.ok items) ow h1 h2
variable {items} {ow}
variable {i:Nat} {d:Option Tmp} {s:AS}
theorem JO (op:Op) (k:Tmp) (want:Bool):dW P items ow ⟨i,d,op,some (k,want)⟩ s=match s.tmps[k]? with
  |some (.one (.p (.raw (.bool b))))=>if b=want then dW P items ow ⟨i,d,op,none⟩ s else some (s.put d .undef)
  |some (.tup [])=>some (s.put d .undef)
  |_=>none:=rfl
theorem wc {op:Op} (h:ud op=true):dW P items ow ⟨i,d,op,none⟩ s=(jc P s.ev op).map (s.put d):=by
 show eI P items ow i ⟨d, op, 0, "", #[], none⟩ s = _;unfold eI;simp only[h,if_true]
theorem tB {op:Op} (h:ud op=false) (h':Ou op=true):dW P items ow ⟨i,d,op,none⟩ s=(cj P s.ev s.H op).map (s.put d):=by
 show eI P items ow i ⟨d, op, 0, "", #[], none⟩ s = _;unfold eI;simp only[h,h',if_true,Bool.false_eq_true,if_false]
theorem Mu (x:Operand):dW P items ow ⟨i,d,.move x,none⟩ s=(s.ev x).map (s.put d):=wc rfl
theorem EO (x:Operand):dW P items ow ⟨i,d,.assign x,none⟩ s=(s.ev x).map (s.put d):=wc rfl
theorem Mv (c a b:Operand):dW P items ow ⟨i,d,.pick c a b,none⟩ s=(jc P s.ev (.pick c a b)).map (s.put d):=wc rfl
theorem PX (op:BinOp) (t t':TypeId) (x y:Operand):dW P items ow ⟨i,d,.binOp op t x y t',none⟩ s=(jc P s.ev (.binOp op t x y t')).map (s.put d):=wc rfl
theorem Tn (op:UnOp) (t:TypeId) (x:Operand):dW P items ow ⟨i,d,.unOp op t x,none⟩ s=(jc P s.ev (.unOp op t x)).map (s.put d):=wc rfl
theorem Ms (t t':TypeId) (x:Operand):dW P items ow ⟨i,d,.convert t t' x,none⟩ s=(jc P s.ev (.convert t t' x)).map (s.put d):=wc rfl
theorem Cr (x:Operand) (k:Nat):dW P items ow ⟨i,d,.extract x k,none⟩ s=(jc P s.ev (.extract x k)).map (s.put d):=wc rfl
theorem Mt (t:TypeId) (x:Operand):dW P items ow ⟨i,d,.load t x,none⟩ s=(cj P s.ev s.H (.load t x)).map (s.put d):=tB rfl rfl
theorem xn (t:TypeId) (x y:Operand):dW P items ow ⟨i,d,.indexAddr t x y,none⟩ s=(cj P s.ev s.H (.indexAddr t x y)).map (s.put d):=tB rfl rfl
theorem xm (t:TypeId) (x:Operand) (f:Nat):dW P items ow ⟨i,d,.fieldAddr t x f,none⟩ s=(cj P s.ev s.H (.fieldAddr t x f)).map (s.put d):=tB rfl rfl
theorem Jq (t:TypeId) (x:Operand) (f:Nat):dW P items ow ⟨i,d,.field t x f,none⟩ s=(cj P s.ev s.H (.field t x f)).map (s.put d):=tB rfl rfl
theorem Jr (t:TypeId) (x:Operand) (lo hi mx:Option Operand):dW P items ow ⟨i,d,.slice t x lo hi mx,none⟩ s=(cj P s.ev s.H (.slice t x lo hi mx)).map (s.put d):=tB rfl rfl
theorem Jo (t:TypeId) (ps:Array (Nat×Operand)):dW P items ow ⟨i,d,.build t ps,none⟩ s=(cj P s.ev s.H (.build t ps)).map (s.put d):=tB rfl rfl
theorem Af (f:Fn) (xs ys:Array Operand):dW P items ow ⟨i,d,.makeFunc f xs ys,none⟩ s=(cj P s.ev s.H (.makeFunc f xs ys)).map (s.put d):=tB rfl rfl
theorem PZ (xs:Array Operand) (ts:Array TypeId):dW P items ow ⟨i,d,.call {callee:= .builtin .len,args:=xs,argTypes:=ts},none⟩ s=(cj P s.ev s.H (.call {callee:= .builtin .len,args:=xs,argTypes:=ts})).map (s.put d):=tB rfl rfl
def xl (d:Nat) (s:AS):Option (TV×List OObj)->Option AS
 |some (t,[])=>some (s.put (some d) t)
 |some (t,o::l)=>(match s.H d with|[]=>some (AS.put ⟨s.tmps,be s.H d (o::l)⟩ (some d) t)|_=>none)
 |none=>none
theorem wb {op:Op} {d:Nat} (h:ud op=false) (h':Ou op=false) (hD:gG P s.ev s.H op=none):dW P items ow ⟨i,some d,op,none⟩ s=xl d s (di P items ow i d s.ev s.H op):=by
 show eI P items ow i ⟨some d, op, 0, "", #[], none⟩ s = _;unfold eI xl;simp only[h,h',Bool.false_eq_true,if_false,hD];cases hA:di P items ow i d s.ev s.H op with
 |none=>rfl
 |some tF=>
  obtain⟨t,F⟩:=tF;cases F with
  |nil=>rfl
  |cons o l=>simp only[];cases s.H d<;>rfl
theorem PY {d:Nat} (e:TypeId) (x:Operand):dW P items ow ⟨i,some d,.box e x,none⟩ s=xl d s (di P items ow i d s.ev s.H (.box e x)):=wb rfl rfl rfl
theorem Jm {d:Nat} (e:TypeId):dW P items ow ⟨i,some d,.alloc e,none⟩ s=xl d s (di P items ow i d s.ev s.H (.alloc e)):=wb rfl rfl rfl
theorem xo {d:Nat} (t:TypeId) (x y:Operand):dW P items ow ⟨i,some d,.makeSlice t x y,none⟩ s=xl d s (di P items ow i d s.ev s.H (.makeSlice t x y)):=wb rfl rfl rfl
theorem we {d:Nat} (t:TypeId) (n:Nat) (ps:Array (Nat×Operand)):dW P items ow ⟨i,some d,.buildSlice t n ps,none⟩ s=xl d s (di P items ow i d s.ev s.H (.buildSlice t n ps)):=wb rfl rfl rfl
theorem Mr {d:Nat} (f:FuncId) (xs:Array Operand) (ts:Array TypeId):dW P items ow ⟨i,some d,.call {callee:= .value (.func f),args:=xs,argTypes:=ts},none⟩ s=xl d s (di P items ow i d s.ev s.H (.call {callee:= .value (.func f),args:=xs,argTypes:=ts})):=wb rfl rfl rfl
theorem Jp {d:Nat} (k:Tmp) (xs:Array Operand) (ts:Array TypeId):dW P items ow ⟨i,some d,.call {callee:= .value (.tmp k),args:=xs,argTypes:=ts},none⟩ s=xl d s (di P items ow i d s.ev s.H (.call {callee:= .value (.tmp k),args:=xs,argTypes:=ts})):=wb rfl rfl rfl
def Vo (d:Option Tmp) (s:AS):Option Dz->Option AS
 |some q=>some (AS.put ⟨s.tmps.map (bo q.k),q.H⟩ d q.t)
 |none=>none
theorem Js (t:TypeId) (x y:Operand):dW P items ow ⟨i,d,.store t x y,none⟩ s=Vo d s (gG P s.ev s.H (.store t x y)):=by
 show eI P items ow i ⟨d, .store t x y, 0, "", #[], none⟩ s = _;unfold eI Vo;simp only[ud,Ou,Bool.false_eq_true,if_false];cases hq:gG P s.ev s.H (.store t x y)with
 |some q=>rfl
 |none=>
  cases d with
  |none=>rfl
  |some d=>simp only[di]
def UG (d:Nat) (s:AS) (q:Option Dz) (r:Option (TV×List OObj)):Option AS:=match q with
 |some q=>Vo (some d) s (some q)
 |none=>xl d s r
theorem EN {d:Nat} (xs:Array Operand) (ts:Array TypeId):dW P items ow ⟨i,some d,.call {callee:= .builtin .append,args:=xs,argTypes:=ts},none⟩ s=
  UG d s (gG P s.ev s.H (.call {callee:= .builtin .append,args:=xs,argTypes:=ts})) (di P items ow i d s.ev s.H (.call {callee:= .builtin .append,args:=xs,argTypes:=ts})):=by
 cases hq:gG P s.ev s.H (.call {callee:= .builtin .append,args:=xs,argTypes:=ts})with
 |some q=>
  show eI P items ow i ⟨some d, .call { callee := .builtin .append, args := xs, argTypes := ts }, 0, "", #[], none⟩ s = _;unfold eI;simp only[ud,Pv,Ou,Bool.false_eq_true,if_false,hq];rfl
 |none=>exact wb rfl rfl hq
end
end
section
def Hm:List (Nat×List OObj)->OH
 |[],_=>[]
 |(k,F)::l,a=>if a=k then F else Hm l a
def Sa (H:OH):List (Nat×List OObj)->Prop
 |[]=>True
 |(k,F)::l=>H k=F/\Sa H l
def Cq (ks:List Nat):AV->Bool
 | .sl a _ _ _=>ks.contains a
 | .ptr a _ _ _=>ks.contains a
 |_=>true
def PW (ks:List Nat):TV->Bool
 | .one x=>Cq ks x
 | .agg cs=>cs.all (Cq ks)
 | .fn _ cs=>cs.all (Cq ks)
 | .tup ts=>ts.all fun t=>t.2.all (Cq ks)
def Uk (ks:List Nat):List TV->List TV->Prop
 |[],[]=>True
 |x::xs,y::ys=>(y= .one .junk\/(y=x/\PW ks y=true))/\Uk ks xs ys
 |_,_=>False
section
variable {P:Program} {w0 w w':World} {O X:Nat->Prop} {ρ:Rho} {H:OH}
theorem FI {H:OH}: ∀{l:List (Nat×List OObj)},Sa H l-> ∀a,((l.map (·.1)).contains a=true->Hm l a=H a)/\((l.map (·.1)).contains a=false->Hm l a=[])
 |[],_,a=>⟨fun h=>by simp at h,fun _=>rfl⟩
 |(k,F)::l,h,a=>by
  obtain⟨h1,h2⟩:=h;obtain⟨g1,g2⟩:=FI h2 a;by_cases ha:a=k
  ·subst ha;exact⟨fun _=>by simp[Hm,h1],fun h=>by simp at h⟩
  refine⟨fun h=>?_,fun h=>?_⟩
  ·simp only[Hm,ha,if_false];apply g1;simpa[ha] using h
  simp only[Hm,ha,if_false];apply g2;simpa[ha] using h
theorem Hw {ks:List Nat}: ∀{l m:List TV},Uk ks l m->m.length=l.length/\ ∀(t:Nat) y,m[t]?=some y->y= .one .junk\/(l[t]?=some y/\PW ks y=true)
 |[],[],_=>⟨rfl,fun t y h=>by simp at h⟩
 |x::xs,y::ys,h=>by
  obtain⟨h1,h2⟩:=h;obtain⟨g1,g2⟩:=Hw h2;refine⟨by simp[g1],fun t z hz=>?_⟩;cases t with
  |succ t=>simp at hz⊢;exact g2 t z hz
  |zero=>
   simp at hz;subst hz;rcases h1 with h1|⟨h1,h3⟩
   ·exact .inl h1
   exact .inr ⟨by simp[h1],h3⟩
 |[],y::ys,h=>h.elim
 |x::xs,[],h=>h.elim
theorem QJ {H':OH} {Y Y':Nat->Prop} {ks:List Nat} (hk: ∀a,ks.contains a=true->H' a=H a) (hY: ∀b,Y' b->Y b) {x:AV} {v:Value} (ho:Cq ks x=true) (h:x.rel ρ H Y w v):x.rel ρ H' Y' w v:=by
 cases x with
 |p x=>exact cu.weaken (fun b _ hb=>hY b hb) h
 |sl a r off len=>
  obtain⟨o,h1,h2⟩:=h;exact⟨o,by rw[hk a ho];exact h1,h2⟩
 |ptr a r i j=>
  obtain⟨o,b,c,h1,h2⟩:=h;exact⟨o,b,c,by rw[hk a ho];exact h1,h2⟩
 |junk=>trivial
theorem aE {s:AS} {tm:List TV} {l:List (Nat×List OObj)} (hl:Sa s.H l) (ht:Uk (l.map (·.1)) s.tmps tm):ci s ⟨tm,Hm l⟩:=by
 rintro w0 O X a w ⟨h1,hsz,ρ,hinv,htm⟩;obtain⟨t1,t2⟩:=Hw ht;have hk:=fun a=>FI hl a
 have live: ∀(a r:Nat) o,(Hm l a)[r]?=some o->(l.map (·.1)).contains a=true/\(s.H a)[r]?=some o:=fun a r o ho=>by
  cases hc:(l.map (·.1)).contains a with
  |false=>rw[(hk a).2 hc]at ho;simp at ho
  |true=>rw[(hk a).1 hc]at ho;exact⟨rfl,ho⟩
 have hXo: ∀b,Xo X ρ (Hm l) b->Xo X ρ s.H b:=fun b hb=>by
  rcases hb with hb|⟨x,y,o,n,g1,g2⟩
  ·exact .inl hb
  exact .inr ⟨x,y,o,n,(live x y o g1).2,g2⟩
 have hmap: ∀x v,Cq (l.map (·.1)) x=true->AV.rel ρ s.H (Xo X ρ s.H) w x v->AV.rel ρ (Hm l) (Xo X ρ (Hm l)) w x v:=fun x v ho h=>QJ (fun a ha=>(hk a).1 ha) hXo ho h
 have hagg: ∀cs v,cs.all (Cq (l.map (·.1)))=true->bX ρ s.H (Xo X ρ s.H) w cs v->bX ρ (Hm l) (Xo X ρ (Hm l)) w cs v:=fun cs v ho h=>by
  simp only[ai]at ho;obtain⟨vs,g1,g2,g3⟩:=h;exact⟨vs,g1,g2,fun j x hx=>by obtain⟨u,u1,u2,u3⟩:=g3 j x hx;exact⟨u,u1,u2,hmap x u (ho x (aw hx)) u3⟩⟩
 refine⟨h1,by simp only;omega,ρ,⟨hinv.keep,fun a r o ho=>?_,fun a r a' r' o o' b c c' ho ho'=>hinv.inj a r a' r' o o' b c c' (live a r o ho).2 (live a' r' o' ho').2,fun a r o b c ho=>hinv.old a r o b c (live a r o ho).2,hinv.bar,fun a r o ho=>hinv.self a r o (live a r o ho).2⟩,fun t x hx=>?_⟩
 ·obtain⟨hc,ho'⟩:=live a r o ho;obtain⟨q1,q2,q3⟩:=hinv.objs a r o ho';refine⟨q1,q2,?_⟩;cases hr:ρ a r with
  |none=>rw[hr]at q3;exact q3
  |some bc=>
   obtain⟨b,c⟩:=bc;rw[hr]at q3;obtain⟨cells,p1,p2,p3,p4,p5⟩:=q3;refine⟨cells,p1,p2,p3,p4,fun i e j x he hx=>?_⟩;obtain⟨u,u1,u2,u3⟩:=p5 i e j x he hx;have hs:=hinv.self a r o ho' e (aw he) x (aw hx);refine⟨u,u1,u2,hmap x u ?_ u3⟩;cases x with
   |sl y _ _ _=>have hs:y=a:=hs;subst hs;exact hc
   |ptr y _ _ _=>have hs:y=a:=hs;subst hs;exact hc
   |p y=>rfl
   |junk=>rfl
 rcases t2 t x hx with rfl|⟨hx',hok⟩
 ·obtain⟨v,hv⟩: ∃v,a.tmps[t]?=some v:=by
   have:t<tm.length:=(List.getElem?_eq_some_iff.1 hx).1;exact⟨_,Array.getElem?_eq_getElem (by omega)⟩
  exact⟨v,hv,trivial⟩
 obtain⟨v,v1,v2⟩:=htm t x hx';refine⟨v,v1,?_⟩;cases x with
 |one x=>exact hmap x v hok v2
 |agg cs=>exact hagg cs v hok v2
 |fn f cs=>obtain⟨u,h1,h2⟩:=v2;exact⟨u,hagg cs u hok h1,h2⟩
 |tup ts=>
  simp only[PW,ai]at hok;obtain⟨vs,g1,g2,g3⟩:=v2;refine⟨vs,g1,g2,fun j b cs hj=>?_⟩;obtain⟨u,u1,u2⟩:=g3 j b cs hj;have hall:=hok (b,cs) (aw hj);refine⟨u,u1,?_⟩;rcases u2 with⟨u2,u3⟩|⟨u2,y,rfl,u4⟩
  ·exact .inl ⟨u2,hagg cs u (by simpa only[ai] using hall) u3⟩
  exact .inr ⟨u2,y,rfl,hmap y u (hall y (by simp)) u4⟩
theorem dx {s:AS} {k d:Nat} (ty:TypeId) (es:Nat) (hes:0<es) (hd:s.H d=[]) (hk:s.tmps[k]?=some (.raw (.slice none 0 0))):ci s ⟨s.tmps.set k (.one (.sl d 0 0 0)),be s.H d [⟨ty,es,[]⟩]⟩:=by
 rintro w0 O X a w ⟨h1,hsz,ρ,hinv,htm⟩;have htm:bY X ρ s a w:=htm;obtain⟨v,v1,v2⟩:=htm k _ hk;have hv:=(bO v2).1;subst hv;have hnew: ∀(r b c:Nat),(fun _=>none:Nat->Option (Nat×Nat)) r=some (b,c)->w.heap.size<=b:=fun r b c h=>by cases h
 have hmono: ∀x u,AV.rel ρ s.H (Xo X ρ s.H) w x u->AV.rel (newρ ρ d fun _=>none) (be s.H d [⟨ty,es,[]⟩]) (Xo X (newρ ρ d fun _=>none) (be s.H d [⟨ty,es,[]⟩])) w x u:=fun x u h=>nP hinv (Ext.refl w) hd hnew h
 refine⟨h1,by simpa using hsz,newρ ρ d fun _=>none,⟨hinv.keep,fun a' r o ho=>?_,fun a' r a'' r' o o' b c c' ho ho' hr hr'=>?_,fun a' r o b c ho hr=>?_,hinv.bar,fun a' r o ho=>?_⟩,fun t x hx=>?_⟩
 ·by_cases ha:a'=d
  ·subst ha;simp only[bF]at ho;cases r with
   |succ r=>simp at ho
   |zero=>simp at ho;subst ho;exact⟨by simp,hes,by rw[newρ_eq]⟩
  simp only[aZ ha]at ho;exact fH (hinv.objs a' r o ho) (newρ_ne ha r) (fun b c hb=>rfl) hmono
 ·by_cases ha:a'=d
  ·subst ha;rw[newρ_eq]at hr;cases hr
  by_cases ha':a''=d
  ·subst ha';rw[newρ_eq]at hr';cases hr'
  rw[newρ_ne ha]at hr;rw[newρ_ne ha']at hr';simp only[aZ ha]at ho;simp only[aZ ha']at ho';exact hinv.inj a' r a'' r' o o' b c c' ho ho' hr hr'
 ·by_cases ha:a'=d
  ·subst ha;rw[newρ_eq]at hr;cases hr
  rw[newρ_ne ha]at hr;simp only[aZ ha]at ho;exact hinv.old a' r o b c ho hr
 ·by_cases ha:a'=d
  ·subst ha;simp only[bF]at ho;cases r with
   |succ r=>simp at ho
   |zero=>simp at ho;subst ho;exact fun e he=>by simp at he
  simp only[aZ ha]at ho;exact hinv.self a' r o ho
 by_cases hkt:k=t
 ·subst hkt;simp only[List.getElem?_set,if_true]at hx;split at hx
  ·injection hx with hx
   subst hx;exact⟨_,v1,⟨ty,es,[]⟩,by show(be s.H d [⟨ty,es,[]⟩] d)[0]?=_;rw[bF];rfl,by simp,.inl ⟨by rw[newρ_eq],rfl,rfl,rfl⟩⟩
  cases hx
 simp only[List.getElem?_set_ne hkt]at hx;obtain⟨u,u1,u2⟩:=htm t x hx;exact⟨u,u1,TV.rel_map u2 hmono⟩
theorem oX {Y Z:Nat->Prop} {a r off len:Nat} {o:OObj} {v:Value} {F:AV->PV} (hob:objRel ρ H Y w a r o) (ho:(H a)[r]?=some o) (hcell: ∀e∈o.elems,∀x∈e,∀u,x.rel ρ H Y w u->cu Z w (F x) u) (hZb: ∀b c,ρ a r=some (b,c)-> ¬Z b)
  (h:AV.rel ρ H Y w (.sl a r off len) v):cu Z w (.sl (((o.elems.take (off+len)).drop off).map (List.map F))) v:=by
 obtain⟨o',g1,g2,g3⟩:=h;rw[ho]at g1;injection g1 with g1
 subst g1;obtain⟨q1,q2,q3⟩:=hob;have hl:(((o.elems.take (off+len)).drop off).map (List.map F)).length=len:=by simp;omega
 rcases g3 with⟨gr,gv,gl,go⟩|⟨b,c,cap,gr,gv,hcap,_⟩
 ·rw[List.length_eq_zero_iff.1 (hl.trans gl),gv];exact cu.nil _ _
 by_cases hl0:len=0
 ·rw[List.length_eq_zero_iff.1 (hl.trans hl0),gv,hl0];exact cu.nil _ _
 rw[gr]at q3;obtain⟨cells,p1,p2,p3,p4,p5⟩:=q3;have hsub: ∀(i:Nat) e,(((o.elems.take (off+len)).drop off).map (List.map F))[i]?=some e-> ∃e',o.elems[off+i]?=some e'/\e=e'.map F:=fun i e he=>by
  rw[az]at he;obtain⟨e',he',rfl⟩:=Option.map_eq_some_iff.1 he;rw[List.getElem?_drop,List.getElem?_take]at he';split at he'
  ·exact⟨e',he',rfl⟩
  cases he'
 have hcl: ∀(i:Nat) e (j:Nat) x,(((o.elems.take (off+len)).drop off).map (List.map F))[i]?=some e->e[j]?=some x-> ∃u:Value,cells[(off+i)*o.es+j]?=some u/\cu Z w x u:=fun i e j x he hx=>by
  obtain⟨e',he',rfl⟩:=hsub i e he;rw[az]at hx;obtain⟨x',hx',rfl⟩:=Option.map_eq_some_iff.1 hx;obtain⟨u,u1,u2,u3⟩:=p5 _ e' j x' he' hx';exact⟨u,u1,hcell e' (aw he') x' (aw hx') u u3⟩
 rw[gv];have:=cu.sl (X:=Z) (w:=w) b (off*o.es) o.es cap (((o.elems.take (off+len)).drop off).map (List.map F)) (fun i j=>(cells[(off+i)*o.es+j]?).getD undef) (hZb b c gr) (Array.getElem?_eq_some_iff.1 p1).1
  (fun e he=>by
   simp only[ak]at he;obtain⟨e',he',rfl⟩:=he;rw[List.length_map];exact q1 e' (List.mem_of_mem_take (List.mem_of_mem_drop he'))) (by omega) (by omega)
  (fun i e j x he hx=>by
   obtain⟨u,u1,_⟩:=hcl i e j x he hx;rw[cell_of_row _ b _ cells o.ty (0,0) p1,<- Nat.add_mul,u1];rfl)
  (fun i e j x he hx=>by
   obtain⟨u,u1,u2⟩:=hcl i e j x he hx;simp only[u1,Option.getD_some];exact u2)
 rw[hl]at this;exact this
def kJ (H:OH) (a:Nat):AV->PV
 | .p x=>x
 | .sl _ r off len=>match(H a)[r]? with
  |some o=> .sl (((o.elems.take (off+len)).drop off).map (List.map unP))
  |none=> .raw undef
 |_=> .raw undef
def fX (H:OH) (a:Nat):AV->AV
 | .sl b r off len=>if b=a then(match(H a)[r]? with
  |some o=> .p (.sl (((o.elems.take (off+len)).drop off).map (List.map (kJ H a))))
  |none=> .junk)else .sl b r off len
 | .ptr b r i j=>if b=a then .junk else .ptr b r i j
 |x=>x
def gX (H:OH) (a:Nat):TV->TV
 | .one x=> .one (fX H a x)
 | .agg cs=> .agg (cs.map (fX H a))
 | .fn f cs=> .fn f (cs.map (fX H a))
 | .tup ts=> .tup (ts.map fun t=>(t.1,t.2.map (fX H a)))
def ra (o:OObj):Prop:= ∀e∈o.elems,∀x∈e,isPure x=true
def xg (H:OH) (a:Nat):Prop:= ∀(r:Nat) o,(H a)[r]?=some o-> ∀e∈o.elems,∀x∈e,isPure x=true\/ ∃r' off len o',x= .sl a r' off len/\(H a)[r']?=some o'/\ra o'
theorem bT {s:AS} (a:Nat) (hok:xg s.H a):ci s ⟨s.tmps.map (gX s.H a),be s.H a []⟩:=by
 rintro w0 O X act w ⟨h1,hsz,ρ,hinv,htm⟩;have htm:bY X ρ s act w:=htm;have hna: ∀(x y:Nat) o,(be s.H a [] x)[y]?=some o->x≠a/\(s.H x)[y]?=some o:=fun x y o ho=>by
  by_cases hx:x=a
  ·subst hx;rw[bF]at ho;simp at ho
  rw[aZ hx]at ho;exact⟨hx,ho⟩
 have hXo: ∀b,Xo X ρ (be s.H a []) b->Xo X ρ s.H b:=fun b hb=>by
  rcases hb with hb|⟨x,y,o,n,g1,g2⟩
  ·exact .inl hb
  exact .inr ⟨x,y,o,n,(hna x y o g1).2,g2⟩
 have hZb: ∀(r:Nat) o,(s.H a)[r]?=some o-> ∀b c,ρ a r=some (b,c)-> ¬Xo X ρ (be s.H a []) b:=fun r o ho b c hr hX=>by
  rcases hX with hX|⟨x,y,o',n,g1,g2⟩
  ·exact(hinv.old a r o b c ho hr).2 hX
  obtain⟨hx,g1'⟩:=hna x y o' g1;exact hx (hinv.inj x y a r o' o b n c g1' ho g2 hr).1
 have hpure: ∀x u,isPure x=true->AV.rel ρ s.H (Xo X ρ s.H) w x u->cu (Xo X ρ (be s.H a [])) w (unP x) u:=fun x u hp h=>by
  cases x<;>first|exact cu.weaken (fun b _ hb=>hXo b hb) h|cases hp
 have hcell: ∀(r:Nat) o,(s.H a)[r]?=some o-> ∀e∈o.elems,∀x∈e,∀u,AV.rel ρ s.H (Xo X ρ s.H) w x u->cu (Xo X ρ (be s.H a [])) w (kJ s.H a x) u:=fun r o ho e he x hx u hu=>by
  rcases hok r o ho e he x hx with hp|⟨r',off,len,o',rfl,ho',hpr⟩
  ·have:=hpure x u hp hu;cases x<;>first|exact this|cases hp
  simp only[kJ,ho'];exact oX (hinv.objs a r' o' ho') ho' (fun e he y hy u hu=>hpure y u (hpr e he y hy) hu) (hZb r' o' ho') hu
 have hmap: ∀x v,AV.rel ρ s.H (Xo X ρ s.H) w x v->AV.rel ρ (be s.H a []) (Xo X ρ (be s.H a [])) w (fX s.H a x) v:=fun x v h=>by
  cases x with
  |p x=>exact cu.weaken (fun b _ hb=>hXo b hb) h
  |sl b r off len=>
   simp only[fX];by_cases hb:b=a
   ·subst hb;rw[if_pos rfl];have h':=h;obtain⟨o,g1,g2,g3⟩:=h;rw[g1];exact oX (hinv.objs b r o g1) g1 (hcell r o g1) (hZb r o g1) h'
   rw[if_neg hb];obtain⟨o,g1,g2⟩:=h;exact⟨o,by rw[aZ hb];exact g1,g2⟩
  |ptr b r i j=>
   simp only[fX];by_cases hb:b=a
   ·subst hb;rw[if_pos rfl];trivial
   rw[if_neg hb];obtain⟨o,b',c,g1,g2⟩:=h;exact⟨o,b',c,by rw[aZ hb];exact g1,g2⟩
  |junk=>trivial
 have hagg: ∀cs v,bX ρ s.H (Xo X ρ s.H) w cs v->bX ρ (be s.H a []) (Xo X ρ (be s.H a [])) w (cs.map (fX s.H a)) v:=fun cs v h=>by
  obtain⟨vs,g1,g2,g3⟩:=h;refine⟨vs,g1,by simpa using g2,fun j x hx=>?_⟩;rw[az]at hx;obtain⟨y,hy,rfl⟩:=Option.map_eq_some_iff.1 hx;obtain⟨u,u1,u2,u3⟩:=g3 j y hy;exact⟨u,u1,u2,hmap y u u3⟩
 refine⟨h1,by simpa using hsz,ρ,⟨hinv.keep,fun x y o ho=>?_,fun x y x' y' o o' b c c' ho ho'=>hinv.inj x y x' y' o o' b c c' (hna x y o ho).2 (hna x' y' o' ho').2,fun x y o b c ho=>hinv.old x y o b c (hna x y o ho).2,hinv.bar,fun x y o ho=>hinv.self x y o (hna x y o ho).2⟩,fun t x hx=>?_⟩
 ·obtain⟨hx,ho'⟩:=hna x y o ho;obtain⟨q1,q2,q3⟩:=hinv.objs x y o ho';refine⟨q1,q2,?_⟩;cases hr:ρ x y with
  |none=>rw[hr]at q3;exact q3
  |some bc=>
   obtain⟨b,c⟩:=bc;rw[hr]at q3;obtain⟨cells,p1,p2,p3,p4,p5⟩:=q3;refine⟨cells,p1,p2,p3,p4,fun i e j z he hz=>?_⟩;obtain⟨u,u1,u2,u3⟩:=p5 i e j z he hz;have hs:=hinv.self x y o ho' e (aw he) z (aw hz);have:=hmap z u u3;refine⟨u,u1,u2,?_⟩;cases z with
   |sl z _ _ _=>have hs:z=x:=hs;subst hs;simpa[fX,hx] using this
   |ptr z _ _ _=>have hs:z=x:=hs;subst hs;simpa[fX,hx] using this
   |p z=>exact this
   |junk=>trivial
 simp only[az]at hx;obtain⟨y,hy,rfl⟩:=Option.map_eq_some_iff.1 hx;obtain⟨v,v1,v2⟩:=htm t y hy;refine⟨v,v1,?_⟩;cases y with
 |one x=>exact hmap x v v2
 |agg cs=>exact hagg cs v v2
 |fn f cs=>obtain⟨u,h1,h2⟩:=v2;exact⟨u,hagg cs u h1,h2⟩
 |tup ts=>
  obtain⟨vs,g1,g2,g3⟩:=v2;refine⟨vs,g1,by simpa using g2,fun j b cs hj=>?_⟩;rw[az]at hj;obtain⟨z,hz,hzz⟩:=Option.map_eq_some_iff.1 hj;obtain⟨b',cs'⟩:=z;simp at hzz;obtain⟨rfl,rfl⟩:=hzz;obtain⟨u,u1,u2⟩:=g3 j b' cs' hz;refine⟨u,u1,?_⟩;rcases u2 with⟨u2,u3⟩|⟨u2,q,rfl,u4⟩
  ·exact .inl ⟨u2,hagg _ _ u3⟩
  exact .inr ⟨u2,_,rfl,hmap q u u4⟩
end
end
section
section
variable {P:Program} {s:AS} {Q:Exit->AS->Prop} {x y z:Code}
theorem cB (items:List (aM P)) (ow:List Nat) {id:Nat} {ops:Array Oper} (h: ∀K:AS->Prop,(∀s',bL P y Q s'->K s')->bD P (items.map aM.a) ow (aY ops ops.toList 0) (some s) K):bL P (.seq (.region id ops false) y) Q s:=
 aF (ov items ow (h _ fun _ h=>h))
theorem ng (items:List (aM P)) (ow:List Nat) {id:Nat} {ops:Array Oper} (h: ∀K:AS->Prop,(∀s',Q .normal s'->K s')->bD P (items.map aM.a) ow (aY ops ops.toList 0) (some s) K):bL P (.region id ops false) Q s:=
 ov items ow (h _ fun _ h=>h)
theorem ck {y:Code} {id:Nat} {ops:Array Oper} (h: ∀K:AS->Prop,(∀s',bL P y Q s'->K s')->bD P [] [] (aY ops ops.toList 0) (some s) K):bL P (.seq (.region id ops false) y) Q s:=cB [] [] h
theorem ou {id:Nat} {ops:Array Oper} (h: ∀K:AS->Prop,(∀s',Q .normal s'->K s')->bD P [] [] (aY ops ops.toList 0) (some s) K):bL P (.region id ops false) Q s:=ng [] [] h
theorem FP {G:Type} (St:G->AS) (μ:G->Nat) (g0:G) {id:Nat} (h0:ci s (St g0))
  (round: ∀g,bL P x (iF (fun s'=> ∃g',μ g'<μ g/\ci s' (St g')) (pG id (iF (bL P y Q) Q))) (St g)):bL P (.seq (.block id (.loop x)) y) Q s:=
 aF (aG (A7 St μ g0 h0 round))
theorem aO {G:Type} (St:G->AS) (μ:G->Nat) (g0:G) {id:Nat} (h0:ci s (St g0))
  (round: ∀g,bL P x (iF (fun s'=> ∃g',μ g'<μ g/\ci s' (St g')) (pG id Q)) (St g)):bL P (.block id (.loop x)) Q s:=
 aG (A7 St μ g0 h0 round)
theorem bu {n:Int} (h1: -9223372036854775808<=n) (h2:n<=9223372036854775807):IntKind.i64.wrap n=n:=IntWalk.i64_in _ (by omega)
theorem cJ {n:Int} (h1:0<=n) (h2:n<18446744073709551616):IntKind.u64.wrap n=n:=by rw[IntKind.wrap_u64];omega
theorem Hx {n:Int} (h1:0<=n) (h2:n<4294967296):IntKind.u32.wrap n=n:=by rw[IntKind.wrap_u32];omega
theorem Ir {f:FuncId} {args:List TV} {res:CallRes} (k:Nat) (xs:List (List PV)) (hk:args[k]?=some (.one (.p (.sl xs)))) (h:xs.length<=9223372036854775807->CallC P f args res) (hc:callable P f=true):CallC P f args res:=by
 refine⟨hc,fun X w vs hX hvs hargs=>?_⟩;obtain⟨v,_,hr⟩:=hargs k _ hk;have hr:cu X w (.sl xs) v:=hr;refine(h ?_).2 X w vs hX hvs hargs;cases hr with
 |nil a c=>simp
 |sl b off es cap xs f hX hb hes hcap hm hc hr=>exact hm
end
end
section
def ls {α:Type} (f:α->List PV) (l:List α):List (List PV):=l.map f
def lc {α:Type} (f:α->List PV) (l:List α):List (List AV):=l.map fun x=>(f x).map AV.p
section
variable {α:Type} {f:α->List PV}
theorem fD (l:List α):(ls f l).length=l.length:=by simp[ls]
theorem nH (l:List α):(lc f l).length=l.length:=by simp[lc]
theorem iA (l:List α) (i:Nat):(ls f l)[i]?=(l[i]?).map f:=by simp[ls]
theorem EB (l:List α) (i:Nat):(lc f l)[i]?=(l[i]?).map fun x=>(f x).map AV.p:=by simp[lc]
theorem PL (l:List α) (i:Nat):(ls f l).take i=ls f (l.take i):=by simp[ls]
theorem PK (l:List α) (i:Nat):(ls f l).drop i=ls f (l.drop i):=by simp[ls]
theorem gS (l:List α) (i:Nat):(lc f l).take i=lc f (l.take i):=by simp[lc]
theorem zP (l:List α) (i:Nat):(lc f l).drop i=lc f (l.drop i):=by simp[lc]
theorem Td (l:List α):(ls f l).map (List.map AV.p)=lc f l:=by simp[ls,lc]
theorem PN (l:List PV):(l.map AV.p).map unP=l:=by rw[List.map_map];exact(List.map_congr_left (fun _ _=>rfl)).trans (List.map_id l)
theorem qQ (l:List α):(lc f l).map (List.map unP)=ls f l:=by
 simp only[ls,lc,List.map_map];exact List.map_congr_left fun x _=>PN (f x)
theorem gN (H:OH) (a:Nat) (l:List α):(lc f l).map (List.map (kJ H a))=ls f l:=by
 simp only[ls,lc,List.map_map];refine List.map_congr_left fun x _=>?_
 show((f x).map AV.p).map (kJ H a)=f x;rw[List.map_map];exact(List.map_congr_left (fun _ _=>rfl)).trans (List.map_id _)
theorem zN (l:List α):((lc f l).all fun e=>e.all isPure)=true:=by
 simp[lc,isPure]
theorem Ta (l m:List α):lc f l++lc f m=lc f (l++m):=by simp[lc]
theorem GI (x:α) (l:List α):ls f (x::l)=f x::ls f l:=rfl
theorem Tc:ls f []=[]:=rfl
theorem zR (l:List α) (i:Nat) (x:α):(lc f l).set i ((f x).map AV.p)=lc f (l.set i x):=by simp[lc,List.map_set]
theorem jy {n:Nat} (hf: ∀x,(f x).length=n) (l:List α):(∀c∈ls f l,c.length=n)=True:=by
 simp only[eq_iff_iff,iff_true];intro c hc;obtain⟨x,_,rfl⟩:=List.mem_map.1 hc;exact hf x
theorem nG {n:Nat} (hf: ∀x,(f x).length=n) (l:List α):(∀c∈lc f l,c.length=n)=True:=by
 simp only[eq_iff_iff,iff_true];intro c hc;obtain⟨x,_,rfl⟩:=List.mem_map.1 hc;rw[List.length_map];exact hf x
theorem zQ (k:Nat->Nat->Bool) (l:List α):(lc f l).map (List.map (bs k))=lc f l:=by
 simp only[lc,List.map_map];refine List.map_congr_left fun x _=>?_
 show((f x).map AV.p).map (bs k)=_;rw[List.map_map];exact List.map_congr_left (fun _ _=>rfl)
theorem pQ (d:Nat) (l:List α):(lc f l).map (List.map (dq d))=lc f l:=by
 simp only[lc,List.map_map];refine List.map_congr_left fun x _=>?_
 show((f x).map AV.p).map (dq d)=_;rw[List.map_map];exact List.map_congr_left (fun _ _=>rfl)
theorem Je {z:Int} (h:0<=z):yi z=some z.toNat:=if_pos h
theorem eY (t:TypeId) (n:Nat) (l:List α):ra ⟨t,n,lc f l⟩:=fun e he x hx=>by
 obtain⟨y,_,rfl⟩:=List.mem_map.1 he;obtain⟨z,_,rfl⟩:=List.mem_map.1 hx;rfl
theorem bQ {H:OH} {a:Nat} {t:TypeId} {n:Nat} {l:List α} (h:H a=[⟨t,n,lc f l⟩]):xg H a:=fun r o ho e he x hx=>by
 rw[h]at ho;cases r with
 |succ r=>simp at ho
 |zero=>simp at ho;subst ho;exact .inl (eY t n l e he x hx)
end
theorem Sp {β:Type} (p:β->Prop):(∀e∈([]:List β),p e)=True:=by simp
theorem OR {β:Type} (p:β->Prop) (x:β) (l:List β):(∀e∈x::l,p e)=(p x/\ ∀e∈l,p e):=by simp
theorem WG {c:Prop} [Decidable c] (h:c) {β:Type} (a b:β):(if c then a else b)=a:=if_pos h
theorem WF {c:Prop} [Decidable c] (h: ¬c) {β:Type} (a b:β):(if c then a else b)=b:=if_neg h
theorem VO {c:Prop} [Decidable c] (h:c):decide c=true:=decide_eq_true h
theorem VN {c:Prop} [Decidable c] (h: ¬c):decide c=false:=decide_eq_false h
def fU (n:Nat):List PV:=[.raw (.int .u32 (n:Int))]
theorem pL (n:Nat):(fU n).length=1:=rfl
def fI (z:Int):List PV:=[.raw (.int .i64 z)]
theorem S0 (n:Int):(fI n).length=1:=rfl
def fN (z:Nat):List PV:=[.raw (.int .i64 (z:Int))]
theorem v7 {d:Nat} {t:TV} (h:noRefTV t=true):selfTV d t/\renTV 0 t=t:=by
 have av: ∀x,f7 x=true->cW d x/\dq 0 x=x:=fun x hx=>by cases x<;>first|exact⟨trivial,rfl⟩|cases hx
 cases t with
 |one x=>exact⟨(av x h).1,by simp only[renTV,(av x h).2]⟩
 |agg cs=>
  simp only[noRefTV,ai]at h;exact⟨fun x hx=>(av x (h x hx)).1,by simp only[renTV];congr 1;exact(List.map_congr_left fun x hx=>(av x (h x hx)).2).trans (List.map_id _)⟩
 |fn f cs=>
  simp only[noRefTV,ai]at h;exact⟨fun x hx=>(av x (h x hx)).1,by simp only[renTV];congr 1;exact(List.map_congr_left fun x hx=>(av x (h x hx)).2).trans (List.map_id _)⟩
 |tup ts=>
  simp only[noRefTV,ai]at h;refine⟨fun t ht x hx=>(av x (h t ht x hx)).1,?_⟩;simp only[renTV]
  congr 1
  refine(List.map_congr_left fun t ht=>?_).trans (List.map_id _);show(t.1,t.2.map (dq 0))=t;rw[(List.map_congr_left fun x hx=>(av x (h t ht x hx)).2).trans (List.map_id t.2)]
theorem jg (l:List Nat) (a:Nat):lc fU l++[[AV.p (.raw (.int .u32 (a:Int)))]]=lc fU (l++[a]):=by simp[lc,fU]
theorem vQ (l:List Int) (a:Int):lc fI l++[[AV.p (.raw (.int .i64 a))]]=lc fI (l++[a]):=by simp[lc,fI]
theorem nE (l:List Nat) (a:Nat):lc fN l++[[AV.p (.raw (.int .i64 (a:Int)))]]=lc fN (l++[a]):=by simp[lc,fN]
theorem ro {P:Program} {fn:Func} {s:AS} {r:TV} {d:Nat} (hd:s.H d=[]) (h:rl P s fn.results.toList=some r) (hp:noRefTV r=true):mO P fn ⟨[],r⟩ s:=
 ⟨r,d,h,JK (v7 hp).1 hd,by rw[hd];rfl,(v7 (d:=0) hp).2.symm⟩
theorem fo {P:Program} {fn:Func} {s:AS} {r:TV} (d:Nat) (hok:xg s.H d) (h:rl P ⟨s.tmps.map (gX s.H d),be s.H d []⟩ fn.results.toList=some r) (hp:noRefTV r=true): ∃s',ci s s'/\mO P fn ⟨[],r⟩ s':=
 ⟨_,bT d hok,ro (d:=d) (by simp[be]) h hp⟩
theorem cd {P:Program} {fn:Func} {s:AS} {r:TV} (hd:s.H 1000=[]) (h:rl P s fn.results.toList=some r) (hp:noRefTV r=true): ∃s',ci s s'/\mO P fn ⟨[],r⟩ s':=
 ⟨_,ci.refl _,ro hd h hp⟩
end
theorem NS:zc Tryz.prog 92=some 4:=by kernel_rfl
theorem JU:kD Tryz.prog 107=some false:=by kernel_rfl
theorem JV:kD Tryz.prog 109=some true:=by kernel_rfl
theorem JW:kD Tryz.prog 122=some true:=by kernel_rfl
theorem QR:kD Tryz.prog 2=some false:=by kernel_rfl
theorem NT:kD Tryz.prog 22=some false:=by kernel_rfl
theorem NU:kD Tryz.prog 24=some true:=by kernel_rfl
theorem NV:kD Tryz.prog 25=some false:=by kernel_rfl
theorem QS:kD Tryz.prog 3=some false:=by kernel_rfl
theorem rC:kD Tryz.prog 30=some false:=by kernel_rfl
theorem rD:kD Tryz.prog 32=some true:=by kernel_rfl
theorem NW:kD Tryz.prog 34=some false:=by kernel_rfl
theorem NX:kD Tryz.prog 37=some false:=by kernel_rfl
theorem ux:kD Tryz.prog 4=some false:=by kernel_rfl
theorem QT:kD Tryz.prog 5=some false:=by kernel_rfl
theorem NY:kD Tryz.prog 56=some false:=by kernel_rfl
theorem NZ:kD Tryz.prog 61=some false:=by kernel_rfl
theorem N0:kD Tryz.prog 74=some true:=by kernel_rfl
theorem N1:kD Tryz.prog 92=some true:=by kernel_rfl
theorem JX:me Tryz.prog 162=some (4,3):=by kernel_rfl
theorem N2:me Tryz.prog 92=some (4,2):=by kernel_rfl
theorem w5:uY Tryz.prog 3=false:=by kernel_rfl
theorem rE:uY Tryz.prog 4=true:=by kernel_rfl
theorem TZ:byO Tryz.prog 2=some 8:=by kernel_rfl
theorem T0:byO Tryz.prog 3=some 8:=by kernel_rfl
theorem QU:byO Tryz.prog 32=some 32:=by kernel_rfl
theorem QV:byO Tryz.prog 34=some 24:=by kernel_rfl
theorem QW:byO Tryz.prog 37=some 24:=by kernel_rfl
theorem QX:byO Tryz.prog 56=some 4:=by kernel_rfl
theorem QY:byO Tryz.prog 61=some 24:=by kernel_rfl
theorem QZ:byO Tryz.prog 74=some 32:=by kernel_rfl
theorem De:gH Tryz.prog 109 0=some (0,3):=by kernel_rfl
theorem Df:gH Tryz.prog 109 1=some (1,107):=by kernel_rfl
theorem Dg:gH Tryz.prog 109 2=some (2,61):=by kernel_rfl
theorem Dh:gH Tryz.prog 122 0=some (0,32):=by kernel_rfl
theorem Di:gH Tryz.prog 122 1=some (2,32):=by kernel_rfl
theorem Fm:gH Tryz.prog 24 0=some (0,5):=by kernel_rfl
theorem Fo:gH Tryz.prog 24 1=some (1,5):=by kernel_rfl
theorem Fp:gH Tryz.prog 24 2=some (2,22):=by kernel_rfl
theorem mK:gH Tryz.prog 32 0=some (0,4):=by kernel_rfl
theorem mL:gH Tryz.prog 32 1=some (1,30):=by kernel_rfl
theorem Fq:gH Tryz.prog 74 0=some (0,2):=by kernel_rfl
theorem Fr:gH Tryz.prog 74 1=some (1,34):=by kernel_rfl
theorem Q2:xk Tryz.prog 2=some .i64:=by kernel_rfl
theorem Q3:xk Tryz.prog 3=some .i64:=by kernel_rfl
theorem Q4:xk Tryz.prog 5=some .u8:=by kernel_rfl
theorem N3:xk Tryz.prog 55=some .u64:=by kernel_rfl
theorem N4:xk Tryz.prog 56=some .u32:=by kernel_rfl
theorem JY:sliceO Tryz.prog 162=none:=by kernel_rfl
theorem N5:sliceO Tryz.prog 92=none:=by kernel_rfl
theorem JZ:kU Tryz.prog 109=some [(0,1),(1,1),(2,1)]:=by kernel_rfl
theorem J0:kU Tryz.prog 122=some [(0,2),(2,2)]:=by kernel_rfl
theorem rF:kU Tryz.prog 32=some [(0,1),(1,1)]:=by kernel_rfl
theorem N6:kU Tryz.prog 74=some [(0,1),(1,1)]:=by kernel_rfl
theorem N7:kU Tryz.prog 84=some [(0,1),(1,1)]:=by kernel_rfl
theorem N8:kU Tryz.prog 92=some []:=by kernel_rfl
theorem Dj:sliceO Tryz.prog 102=some 3:=by kernel_rfl
theorem Dk:sliceO Tryz.prog 107=some 37:=by kernel_rfl
theorem Fs:sliceO Tryz.prog 25=some 34:=by kernel_rfl
theorem mM:sliceO Tryz.prog 30=some 56:=by kernel_rfl
theorem Ft:sliceO Tryz.prog 34=some 2:=by kernel_rfl
theorem Fu:sliceO Tryz.prog 37=some 61:=by kernel_rfl
theorem Fv:sliceO Tryz.prog 61=some 32:=by kernel_rfl
theorem Fw:sliceO Tryz.prog 71=some 74:=by kernel_rfl
theorem N9:szO Tryz.prog 107=some 1:=by kernel_rfl
theorem Oa:szO Tryz.prog 109=some 3:=by kernel_rfl
theorem Ob:szO Tryz.prog 122=some 4:=by kernel_rfl
theorem T1:szO Tryz.prog 2=some 1:=by kernel_rfl
theorem Q5:szO Tryz.prog 22=some 1:=by kernel_rfl
theorem Q6:szO Tryz.prog 24=some 4:=by kernel_rfl
theorem Q7:szO Tryz.prog 25=some 1:=by kernel_rfl
theorem T2:szO Tryz.prog 3=some 1:=by kernel_rfl
theorem uy:szO Tryz.prog 30=some 1:=by kernel_rfl
theorem uz:szO Tryz.prog 32=some 2:=by kernel_rfl
theorem Q8:szO Tryz.prog 34=some 1:=by kernel_rfl
theorem Q9:szO Tryz.prog 37=some 1:=by kernel_rfl
theorem AL:szO Tryz.prog 4=some 1:=by kernel_rfl
theorem T3:szO Tryz.prog 5=some 1:=by kernel_rfl
theorem Ra:szO Tryz.prog 56=some 1:=by kernel_rfl
theorem Rb:szO Tryz.prog 61=some 1:=by kernel_rfl
theorem Rc:szO Tryz.prog 74=some 2:=by kernel_rfl
theorem Re:szO Tryz.prog 92=some 4:=by kernel_rfl
theorem Fx:zeroO Tryz.prog 109=some [(.int .i64 0),(.slice none 0 0),(.slice none 0 0)]:=by kernel_rfl
theorem Fy:zeroO Tryz.prog 122=some [(.bool false),(.slice none 0 0),(.bool false),(.slice none 0 0)]:=by kernel_rfl
theorem Oc:zeroO Tryz.prog 2=some [(.int .i64 0)]:=by kernel_rfl
theorem Od:zeroO Tryz.prog 3=some [(.int .i64 0)]:=by kernel_rfl
theorem pi:zeroO Tryz.prog 32=some [(.bool false),(.slice none 0 0)]:=by kernel_rfl
theorem J1:zeroO Tryz.prog 34=some [(.slice none 0 0)]:=by kernel_rfl
theorem J2:zeroO Tryz.prog 37=some [(.slice none 0 0)]:=by kernel_rfl
theorem J3:zeroO Tryz.prog 56=some [(.int .u32 0)]:=by kernel_rfl
theorem J4:zeroO Tryz.prog 61=some [(.slice none 0 0)]:=by kernel_rfl
theorem J5:zeroO Tryz.prog 74=some [(.int .i64 0),(.slice none 0 0)]:=by kernel_rfl
theorem J6:zeroO Tryz.prog 84=some [(.slice none 0 0),(.int .i64 0)]:=by kernel_rfl
theorem J7:zeroO Tryz.prog 92=some [(.int .i64 0),(.int .i64 0),(.int .i64 0),(.int .i64 0)]:=by kernel_rfl
theorem d8:Tryz.prog.follows .mixedOrders=true:=by kernel_rfl
def natV:List Nat->Nat
 |[]=>0
 |a::l=>a+4294967296*natV l
def Lmb (l:List Nat):Prop:= ∀a∈l,a<4294967296
def pu (l:List Nat):Prop:=l.getLast?≠some 0
def du:List Nat->List Nat
 |[]=>[]
 |a::l=>match du l with
  |[]=>if a=0 then[]else[a]
  |b::m=>a::b::m
theorem jl (x y:List Nat):natV (x++y)=natV x+4294967296^x.length*natV y:=by
 induction x with
 |nil=>simp[natV]
 |cons a l ih=>simp[natV,ih,Nat.pow_succ,Nat.mul_add,Nat.mul_assoc,Nat.add_assoc,Nat.mul_comm]
theorem fF {l:List Nat} (h:Lmb l):natV l<4294967296^l.length:=by
 induction l with
 |nil=>simp[natV]
 |cons a l ih=>
  have ha:=h a List.mem_cons_self;have:=ih (fun b hb=>h b (List.mem_cons_of_mem _ hb));rw[List.length_cons,Nat.pow_succ,natV];have h2:4294967296*(natV l+1)<=4294967296*4294967296^l.length:=Nat.mul_le_mul_left _ this;rw[Nat.mul_comm (4294967296^l.length)];omega
theorem Jh (l:List Nat):natV (du l)=natV l:=by
 induction l with
 |nil=>rfl
 |cons a l ih=>
  unfold du;split
  ·rename_i h;rw[h]at ih;simp[natV]at ih;split
   ·rename_i h0;simp[natV,<- ih,h0]
   simp[natV,<- ih]
  rename_i b m h;rw[h]at ih;simp[natV,<- ih]
theorem NP (l:List Nat):pu (du l):=by
 induction l with
 |nil=>simp[pu,du]
 |cons a l ih=>
  unfold du;split
  ·split
   ·simp[pu]
   rename_i h0;simp[pu,h0]
  rename_i b m h;rw[h]at ih;unfold pu at*
  rw[List.getLast?_cons_cons];exact ih
theorem NQ (l:List Nat):(du l).length<=l.length:=by
 induction l with
 |nil=>simp[du]
 |cons a l ih=>
  unfold du;split
  ·split<;>simp
  rename_i b m h;rw[h]at ih;simp at ih⊢;omega
theorem qA {a:Nat} {l:List Nat} (h:pu (a::l)):pu l:=by
 cases l with
 |nil=>simp[pu]
 |cons b m=>unfold pu at*;rw[List.getLast?_cons_cons]at h;exact h
theorem tH {l:List Nat} (h:pu l):du l=l:=by
 induction l with
 |nil=>rfl
 |cons a l ih=>
  have e:=ih (qA h);unfold du;rw[e];cases l with
  |nil=>simp[pu]at h;simp[h]
  |cons b m=>rfl
theorem kB (l:List Nat):du (l++[0])=du l:=by
 induction l with
 |nil=>simp[du]
 |cons a l ih=>rw[List.cons_append,du,ih];rfl
theorem s6 {l:List Nat} {a:Nat} (h:a≠0):du (l++[a])=l++[a]:=tH (by simp[pu,h])
theorem NR {l:List Nat} (h:Lmb l):Lmb (du l):=by
 induction l with
 |nil=>exact h
 |cons a l ih=>
  have ih:=ih (fun b hb=>h b (List.mem_cons_of_mem _ hb));unfold du;split
  ·split
   ·intro b hb;simp at hb
   intro b hb;simp at hb;subst hb;exact h _ List.mem_cons_self
  rename_i b m hh;rw[hh]at ih;intro c hc;rcases List.mem_cons.1 hc with rfl|hc
  ·exact h _ List.mem_cons_self
  exact ih c hc
theorem vd {l:List Nat} (h:pu l) (hne:l≠[]):4294967296^(l.length-1)<=natV l:=by
 induction l with
 |nil=>exact absurd rfl hne
 |cons a l ih=>
  cases l with
  |nil=>simp[pu]at h;simp[natV];omega
  |cons b m=>
   have:=ih (qA h) (by simp);simp only[List.length_cons,Nat.add_sub_cancel]at this⊢;rw[natV,Nat.pow_succ,Nat.mul_comm (4294967296^m.length)];have h2:=Nat.mul_le_mul_left 4294967296 this;omega
theorem DY {l:List Nat} {k:Nat} (h:pu l) (hv:natV l<4294967296^k):l.length<=k:=by
 by_cases hne:l=[]
 ·subst hne;simp
 have:=vd h hne;have h2:4294967296^(l.length-1)<4294967296^k:=Nat.lt_of_le_of_lt this hv;have:=(Nat.pow_lt_pow_iff_right (by omega:1<4294967296)).1 h2;omega
theorem OY {l m:List Nat} (hl:Lmb l) (hm:Lmb m) (cl:pu l) (cm:pu m) (h:natV l=natV m):l=m:=by
 induction l generalizing m with
 |nil=>
  cases m with
  |nil=>rfl
  |cons b m=>
   have:=vd cm (by simp);have:0<4294967296^((b::m).length-1):=Nat.pow_pos (by omega);rw[<- h]at*
   simp[natV]at*
 |cons a l ih=>
  cases m with
  |nil=>
   have:=vd cl (by simp);have:0<4294967296^((a::l).length-1):=Nat.pow_pos (by omega);rw[h]at*
   simp[natV]at*
  |cons b m=>
   have ha:=hl a List.mem_cons_self;have hb:=hm b List.mem_cons_self;simp only[natV]at h;have e1:a=b:=by omega
   have e2:natV l=natV m:=by omega
   rw[e1,ih (fun c hc=>hl c (List.mem_cons_of_mem _ hc)) (fun c hc=>hm c (List.mem_cons_of_mem _ hc)) (qA cl) (qA cm) e2]
def OK (w:World) (A:Option Addr) (l:List Nat):Prop:=RdI .u32 w A (l.map fun n:Nat=>(n:Int))
theorem OK.ext {w w':World} {A:Option Addr} {l:List Nat} (h:OK w A l) (e:Ext w w'):OK w' A l:=RdI.ext h e
theorem OK.nil (w:World) (A:Option Addr):OK w A []:=RdI.nil _ _ _
theorem OK.at_ {w:World} {A:Option Addr} {l:List Nat} (h:OK w A l) {i z:Nat} (hi:l[i]?=some z):
  ∃b off,A=some ⟨b,off,none⟩/\w.cell? ⟨b,off+i,none⟩=some (.int .u32 (z:Int)):=RdI.at_ h (by simp[hi])
def gD (neg:Bool) (n:Nat):Int:=if neg then -(n:Int)else n
def A0 (w:World) (v:Value) (z:Int) (k:Nat):Prop:=
 ∃neg A c l,v= .agg #[.bool neg,.slice A l.length c]/\l.length<=c/\OK w A l/\Lmb l/\pu l/\z=gD neg (natV l)/\l.length<=k/\(l=[]->neg=false)
theorem A0.ext {w w':World} {v:Value} {z:Int} {k:Nat} (h:A0 w v z k) (e:Ext w w'):A0 w' v z k:=by
 obtain⟨neg,A,c,l,h1,h2,h3,h4⟩:=h;exact⟨neg,A,c,l,h1,h2,h3.ext e,h4⟩
theorem A0.mono {w:World} {v:Value} {z:Int} {k k':Nat} (h:A0 w v z k) (e:k<=k'):A0 w v z k':=by
 obtain⟨neg,A,c,l,h1,h2,h3,h4,h5,h6,h7,h8⟩:=h;exact⟨neg,A,c,l,h1,h2,h3,h4,h5,h6,by omega,h8⟩
theorem A0.zero (w:World) (k:Nat):A0 w (.agg #[.bool false,.slice none 0 0]) 0 k:=
 ⟨false,none,0,[],rfl,by simp,OK.nil _ _,by intro a h;simp at h,by simp[pu],rfl,by simp,fun _=>rfl⟩
def fq:List Int->List Int->Int
 |[],[]=>0
 |[],_::_=> -1
 |_::_,[]=>1
 |a::x,b::y=>if a<b then -1 else if b<a then 1 else fq x y
theorem Iv {x y:List Int} {k:Nat} {a b:Int} (ha:x[k]?=some a) (hb:y[k]?=some b):
  fq (x.drop k) (y.drop k)=if a<b then -1 else if b<a then 1 else fq (x.drop (k+1)) (y.drop (k+1)):=by
 obtain⟨h1,rfl⟩:=List.getElem?_eq_some_iff.1 ha;obtain⟨h2,rfl⟩:=List.getElem?_eq_some_iff.1 hb;rw[List.drop_eq_getElem_cons h1,List.drop_eq_getElem_cons h2];rfl
theorem Iw {x y:List Int} {k:Nat} (h1:k>=x.length) (h2:k<y.length):fq (x.drop k) (y.drop k)= -1:=by
 rw[List.drop_of_length_le h1,List.drop_eq_getElem_cons h2];rfl
theorem DZ {x y:List Int} {k:Nat} (h1:k<x.length) (h2:k>=y.length):fq (x.drop k) (y.drop k)=1:=by
 rw[List.drop_of_length_le h2,List.drop_eq_getElem_cons h1];rfl
theorem Iu {x y:List Int} {k:Nat} (h1:k>=x.length) (h2:k>=y.length):fq (x.drop k) (y.drop k)=0:=by
 rw[List.drop_of_length_le h1,List.drop_of_length_le h2];rfl
theorem UW {a b:Int} {r:Int} (h:(a !=b)=true) (h':a<b): -1=if a<b then -1 else if b<a then 1 else r:=by simp[h']
theorem UV {a b:Int} {r:Int} (h:(a !=b)=true) (h': ¬a<b):1=if a<b then -1 else if b<a then 1 else r:=by
 have:a≠b:=by simpa using h
 rw[if_neg h',if_pos (by omega)]
theorem Pn {a b:Int} {r:Int} (h:(a !=b)=false):(if a<b then -1 else if b<a then 1 else r)=r:=by
 have:a=b:=by simpa using h
 rw[if_neg (by omega),if_neg (by omega)]
theorem nY (A B:Option Addr) (c d:Nat) (x y:List Int) (w:World) (hx:RdI .i64 w A x) (hy:RdI .i64 w B y) (lx:x.length<=9223372036854775807) (ly:y.length<=9223372036854775807):
  Calls Tryz.prog 15 #[.slice A x.length c,.slice B y.length d] w fun e w'=>e= .returned (.int .i64 (fq x y))/\ ∃n,w'=w.drewN n:=by
 have HX:=Lib.hid hx;have HY:=Lib.hid hy;clear hx hy
 go_enter Tryz.func15,Tryz.ntmps15
 go_wp2_with fail
 go_loopw [5] (fun i wr=> ∃k n:Nat,k<=x.length/\k<=y.length/\i= .int .i64 k/\wr=w.drewN n/\Hid (fq (x.drop k) (y.drop k)=fq x y)) (fun i _=>x.length-(intOf i).toNat)
 case atStart=>exact⟨0,0,Nat.zero_le _,Nat.zero_le _,rfl,rfl,Lib.hid rfl⟩
 case round=>
  obtain⟨k,n,hk,hky,rfl,rfl,HR⟩:=hrel;by_cases hlt:k<x.length
  ·obtain⟨a,ha⟩:=getElem?_of_lt hlt;obtain⟨b,off,rfl,hc⟩:=HX.out.at_ ha;have HA:=Lib.hid ha;clear ha;by_cases hly:k<y.length
   ·obtain⟨a',ha'⟩:=getElem?_of_lt hly;obtain⟨b',off',rfl,hc'⟩:=HY.out.at_ ha';have HA':=Lib.hid ha';clear ha';have hD:=Lib.hid (Iv HA.out HA'.out)
    go_wp2_with fail
    go_quiet (fail)
    go_wp2_with fail
    ·go_quiet (fail)
     have hne:(a !=a')=true:=by assumption
     go_wp2_with fail
     all_goals
      go_ret
      exact⟨ur (by rw[<- HR.out,hD.out];first|exact UW hne (by omega)|exact UV hne (by omega)),_,by rw[World.drewN_drewN,World.drewN_drewN]⟩
    have he:(a !=a')=false:=by assumption
    go_roundw
    case rel=>exact⟨k+1,_,by omega,by omega,by go_num,rfl,Lib.hid (by rw[<- HR.out,hD.out];exact(Pn he).symm)⟩
    case measure=>simp[intOf];omega
   go_wp2_with fail
   all_goals
    go_ret
    exact⟨ur (by rw[<- HR.out,DZ hlt (by omega)]),_,rfl⟩
  by_cases hly:k<y.length
  ·go_wp2_with fail
   all_goals
    go_ret
    exact⟨ur (by rw[<- HR.out,Iw (by omega) (by omega)]),_,rfl⟩
  go_wp2_with fail
  all_goals
   go_ret
   exact⟨ur (by rw[<- HR.out,Iu (by omega) (by omega)]),_,rfl⟩
theorem ri {P:Program} {id:Nat} {Q:Exit->Act->World->Prop} {a:Act} {w:World} {l:List Oper} (n:Nat) (hm:P.follows .mixedOrders=true) (hB:Region.lexTailB .any l.toArray n=true)
  (h:wpStill P l.toArray w.drew (fun a'=>wpList P l.toArray Q (l.drop n) a' w.drew) (l.take n) a):(Code.region id l.toArray true).wp P Q a w:=wp_region_still_tail n hm hB h
theorem Tryz.inU32:(Tryz.prog.info? 56).map (fun i=>(i.zero,i.size,i.bytes))=some (some (.int .u32 0),1,4):=by kernel_rfl
def sg (z:Int):Int:=if z<0 then -1 else if z=0 then 0 else 1
theorem yL (u:Nat):natV [u%4294967296,u/4294967296]=u:=by simp[natV];omega
def gF (a b:Nat):Int:=if a<b then -1 else if a=b then 0 else 1
theorem vX {l:List Nat} {k a:Nat} (h:l[k]?=some a):natV l=natV (l.take k)+4294967296^k*(a+4294967296*natV (l.drop (k+1))):=by
 have hk:=(List.getElem?_eq_some_iff.1 h).1
 conv=>lhs;rw[<- List.take_append_drop k l]
 rw[jl,List.length_take,Nat.min_eq_left (by omega),List.drop_eq_getElem_cons hk,natV,(List.getElem?_eq_some_iff.1 h).2]
theorem L5 {l:List Nat} (h:Lmb l) (k:Nat):Lmb (l.take k):=fun a ha=>h a (List.mem_of_mem_take ha)
theorem mA {l m:List Nat} {k a b:Nat} (hl:Lmb l) (ha:l[k]?=some a) (hb:m[k]?=some b) (hd:l.drop (k+1)=m.drop (k+1)) (hab:a<b):natV l<natV m:=by
 have hk:=(List.getElem?_eq_some_iff.1 ha).1;rw[vX ha,vX hb,hd];have h1:=fF (L5 hl k);rw[List.length_take,Nat.min_eq_left (by omega)]at h1;have h2:4294967296^k*(a+1+4294967296*natV (m.drop (k+1)))<=4294967296^k*(b+4294967296*natV (m.drop (k+1))):=Nat.mul_le_mul_left _ (by omega);have e:4294967296^k*(a+1+4294967296*natV (m.drop (k+1)))=4294967296^k+4294967296^k*(a+4294967296*natV (m.drop (k+1))):=by grind
 omega
theorem jo {l m:List Nat} (hl:Lmb l) (hm:pu m) (h:l.length<m.length):natV l<natV m:=by
 have h1:=fF hl;have h2:=vd hm (by intro e;rw[e]at h;simp at h);have h3:4294967296^l.length<=4294967296^(m.length-1):=Nat.pow_le_pow_right (by omega) (by omega);omega
theorem oE {a b:Nat} (h:a<b):gF a b= -1:=by simp[gF,h]
theorem tX {a b:Nat} (h:b<a):gF a b=1:=by unfold gF;rw[if_neg (by omega),if_neg (by omega)]
theorem xW {l m:List Nat} {k a:Nat} (ha:l[k]?=some a) (hb:m[k]?=some a) (hd:l.drop (k+1)=m.drop (k+1)):l.drop k=m.drop k:=by
 obtain⟨h1,rfl⟩:=List.getElem?_eq_some_iff.1 ha;obtain⟨h2,h3⟩:=List.getElem?_eq_some_iff.1 hb;rw[List.drop_eq_getElem_cons h1,List.drop_eq_getElem_cons h2,hd,h3]
section
def gI (H:OH):AV->Prop
 | .sl a _ _ _=>H a≠[]
 | .ptr a _ _ _=>H a≠[]
 |_=>True
def gY (H:OH):TV->Prop
 | .one x=>gI H x
 | .agg cs=> ∀x∈cs,gI H x
 | .fn _ cs=> ∀x∈cs,gI H x
 | .tup ts=> ∀t∈ts,∀x∈t.2,gI H x
def ql (s:AS):Prop:=(∀(t:Nat) x,s.tmps[t]?=some x->gY s.H x)/\ ∀a,∀o∈s.H a,selfO a o
section
variable {P:Program} {s s':AS} {H:OH}
theorem kS {w0 w:World} {O X:Nat->Prop} {a:Act} (h:fW w0 O X s a w):ql s:=by
 obtain⟨_,_,ρ,hinv,htm⟩:=h;have av: ∀x v,AV.rel ρ s.H (Xo X ρ s.H) w x v->gI s.H x:=fun x v hx=>by
  cases x with
  |p x=>trivial
  |sl a r off len=>obtain⟨o,h1,_⟩:=hx;intro h0;rw[h0]at h1;simp at h1
  |ptr a r i j=>obtain⟨o,_,_,h1,_⟩:=hx;intro h0;rw[h0]at h1;simp at h1
  |junk=>trivial
 have agg: ∀cs v,bX ρ s.H (Xo X ρ s.H) w cs v-> ∀x∈cs,gI s.H x:=fun cs v hc x hx=>by
  obtain⟨vs,_,_,h3⟩:=hc;obtain⟨k,hk,rfl⟩:=List.getElem_of_mem hx;obtain⟨u,_,_,h4⟩:=h3 k _ (au hk);exact av _ _ h4
 refine⟨fun t x hx=>?_,fun a o ho=>?_⟩
 ·obtain⟨v,_,hv⟩:=htm t x hx;cases x with
  |one x=>exact av x v hv
  |agg cs=>exact agg cs v hv
  |fn f cs=>obtain⟨u,h1,h2⟩:=hv;exact agg cs u h1
  |tup ts=>
   obtain⟨vs,_,_,h3⟩:=hv;intro t ht x hx;obtain⟨k,hk,rfl⟩:=List.getElem_of_mem ht;obtain⟨u,_,h4⟩:=h3 k _ _ (au hk);rcases h4 with⟨_,h4⟩|⟨_,y,h5,h4⟩
   ·exact agg _ _ h4 x hx
   have h5:ts[k].2=[y]:=h5;rw[h5]at hx;simp at hx;subst hx;exact av _ _ h4
 obtain⟨k,hk,rfl⟩:=List.getElem_of_mem ho;exact hinv.self a k _ (au hk)
theorem fh (h:ql s) {x:Operand} {t:TV} (hx:s.ev x=some t):gY s.H t:=by
 cases x with
 |tmp k=>exact h.1 k t hx
 |const v=>
  simp only[AS.ev]at hx;injection hx with hx
  subst hx;unfold oV;split
  ·split
   ·intro y hy;simp only[ak]at hy;obtain⟨u,_,rfl⟩:=hy;trivial
   trivial
  split<;>trivial
 |global g=>simp only[AS.ev]at hx;injection hx with hx;subst hx;trivial
 |func f=>simp only[AS.ev]at hx;injection hx with hx;subst hx;trivial
theorem lS (h:ql s) {d:Option Tmp} {t:TV} (ht:gY s.H t):ql (s.put d t):=by
 refine⟨fun k x hx=>?_,by rw[jC];exact h.2⟩;rw[jC];cases d with
 |none=>exact h.1 k x hx
 |some d=>
  simp only[AS.put]at hx;by_cases hk:d=k
  ·subst hk;rw[List.getElem?_set]at hx;simp at hx;obtain⟨_,rfl⟩:=hx;exact ht
  rw[List.getElem?_set_ne hk]at hx;exact h.1 k x hx
theorem IF (h:ql s) {op:Op} {t:TV} (ht:jc P s.ev op=some t):gY s.H t:=by
 cases op<;>simp only[jc]at ht<;>try cases ht
 case call c=>
  unfold UU at ht;split at ht
  ·obtain⟨k,k',a,b,_,rfl⟩:=lN ht;trivial
  ·obtain⟨k,k',a,b,_,rfl⟩:=lN ht;trivial
  cases ht
 case move x=>exact fh h ht
 case assign x=>exact fh h ht
 case pick c a b=>
  split at ht
  ·exact fh h ht
  ·exact fh h ht
  cases ht
 case binOp op ty x y yt=>
  split at ht
  ·unfold ym at ht;split at ht
   ·injection ht with ht;subst ht;trivial
   ·injection ht with ht;subst ht;trivial
   cases ht
  split at ht
  ·obtain⟨v,_,rfl⟩:=Option.map_eq_some_iff.1 ht;trivial
  ·unfold xX at ht;split at ht
   ·split at ht
    ·injection ht with ht;subst ht;trivial
    cases ht
   ·split at ht
    ·injection ht with ht;subst ht;trivial
    cases ht
   cases ht
  cases ht
 case unOp op ty x=>
  split at ht
  ·obtain⟨v,_,rfl⟩:=Option.map_eq_some_iff.1 ht;trivial
  cases ht
 case convert a b x=>
  split at ht
  ·injection ht with ht;subst ht;trivial
  cases ht
 case extract x k=>
  split at ht
  ·rename_i ts hx;have hl:=fh h hx;split at ht
   ·rename_i cs hk;injection ht with ht
    subst ht;exact hl _ (aw hk)
   ·rename_i y hk;injection ht with ht
    subst ht;exact hl _ (aw hk) y (by simp)
   cases ht
  cases ht
theorem oY {t:TypeId} {cs:List AV} {T:TV} (h:packT P t cs=some T) (hc: ∀x∈cs,gI H x):gY H T:=by
 unfold packT at h;split at h
 ·split at h
  ·injection h with h;subst h;exact fun x hx=>hc x (List.mem_of_mem_take hx)
  cases h
 ·split at h
  ·injection h with h;subst h;exact hc _ (by simp)
  cases h
 cases h
theorem zk {t:TV} {cs:List AV} (h:cellsOf t=some cs) (ht:gY H t): ∀x∈cs,gI H x:=by
 unfold cellsOf at h;split at h
 ·injection h with h;subst h;intro x hx;simp at hx;subst hx;trivial
 ·injection h with h;subst h;exact ht
 cases h
theorem xZ (h:ql s) {pl:List (Nat×Nat)}: ∀(parts:List (Nat×Operand)) (cs cs':List AV),jd pl s.ev cs parts=some cs'->(∀x∈cs,gI s.H x)-> ∀x∈cs',gI s.H x
 |[],cs,cs',hf,hc=>by simp only[jd]at hf;injection hf with hf;subst hf;exact hc
 |(f,x)::rest,cs,cs',hf,hc=>by
  simp only[jd]at hf;split at hf
  ·rename_i off n ys hp hx;obtain⟨t,ht,hys⟩:=Option.bind_eq_some_iff.1 hx;split at hf
   ·refine xZ h rest _ cs' hf fun y hy=>?_
    simp only[List.mem_append]at hy;rcases hy with(hy|hy)|hy
    ·exact hc y (List.mem_of_mem_take hy)
    ·exact zk hys (fh h ht) y hy
    exact hc y (List.mem_of_mem_drop hy)
   cases hf
  cases hf
theorem JL (h:ql s) {a r i:Nat} {o:OObj} {e:List AV} (ho:(s.H a)[r]?=some o) (he:o.elems[i]?=some e): ∀x∈e,gI s.H x:=fun x hx=>by
 have hs:=h.2 a o (aw ho) e (aw he) x hx;have hne:s.H a≠[]:=by intro h0;rw[h0]at ho;simp at ho
 cases x with
 |sl b _ _ _=>have hs:b=a:=hs;subst hs;exact hne
 |ptr b _ _ _=>have hs:b=a:=hs;subst hs;exact hne
 |p x=>trivial
 |junk=>trivial
theorem IG (h:ql s) {op:Op} {t:TV} (ht:cj P s.ev s.H op=some t):gY s.H t:=by
 cases op
 case load ty x=>
  simp only[cj]at ht;split at ht
  ·exact oY ht (fun y hy=>by simp only[ak]at hy;obtain⟨z,_,rfl⟩:=hy;trivial)
  ·split at ht
   ·rename_i o ho;split at ht
    ·rename_i e he;exact oY ht (fun y hy=>JL h ho he y (List.mem_of_mem_drop hy))
    cases ht
   cases ht
  cases ht
 case indexAddr ty x ix=>
  simp only[cj]at ht;split at ht
  ·split at ht
   ·cases ht
   split at ht
   ·split at ht
    ·split at ht
     ·injection ht with ht;subst ht;trivial
     cases ht
    cases ht
   ·rename_i e a r off len hs hx;split at ht
    ·split at ht
     ·injection ht with ht;subst ht;have q:=fh h hx;exact q
     cases ht
    cases ht
   ·split at ht
    ·split at ht
     ·split at ht
      ·injection ht with ht;subst ht;trivial
      cases ht
     cases ht
    cases ht
   ·rename_i hx;split at ht
    ·split at ht
     ·split at ht
      ·injection ht with ht;subst ht;have q:=fh h hx;exact q
      cases ht
     cases ht
    cases ht
   ·split at ht
    ·split at ht
     ·split at ht
      ·injection ht with ht;subst ht;trivial
      cases ht
     cases ht
    cases ht
   cases ht
  cases ht
 case index ty x ix=>
  simp only[cj]at ht;split at ht
  ·split at ht
   ·cases ht
   split at ht
   ·rename_i hx;split at ht
    ·split at ht
     ·exact oY ht (fun y hy=>fh h hx y (List.mem_of_mem_drop hy))
     cases ht
    cases ht
   cases ht
  cases ht
 case fieldAddr ty x f=>
  simp only[cj]at ht;split at ht
  ·split at ht
   ·injection ht with ht;subst ht;trivial
   cases ht
  ·rename_i hx;split at ht
   ·injection ht with ht;subst ht;have q:=fh h hx;exact q
   cases ht
  cases ht
 case field ty x f=>
  simp only[cj]at ht;split at ht
  ·rename_i hx;exact oY ht (fun y hy=>fh h hx y (List.mem_of_mem_drop hy))
  cases ht
 case slice ty x lo hi mx=>
  cases mx with
  |some mx=>
   cases lo with
   |none=>simp only[cj]at ht;cases ht
   |some lo=>
   cases hi with
   |none=>simp only[cj]at ht;cases ht
   |some hi=>
   simp only[cj]at ht;split at ht
   ·rename_i hx;split at ht
    ·split at ht
     ·injection ht with ht;subst ht;have q:=fh h hx;exact q
     cases ht
    cases ht
   cases ht
  |none=>
   simp only[cj]at ht;split at ht
   ·split at ht
    ·split at ht
     ·injection ht with ht;subst ht;trivial
     cases ht
    cases ht
   ·rename_i hx;split at ht
    ·split at ht
     ·injection ht with ht;subst ht;have q:=fh h hx;exact q
     split at ht
     ·injection ht with ht;subst ht;trivial
     cases ht
    cases ht
   cases ht
 case build ty parts=>
  simp only[cj]at ht;split at ht
  ·split at ht
   ·obtain⟨cs,hcs,rfl⟩:=Option.map_eq_some_iff.1 ht;exact xZ h _ _ _ hcs (fun y hy=>by simp only[ak]at hy;obtain⟨z,_,rfl⟩:=hy;trivial)
   cases ht
  cases ht
 case nilCheck x=>
  simp only[cj]at ht;split at ht
  ·injection ht with ht;subst ht;trivial
  ·rename_i hx;injection ht with ht;subst ht;have q:=fh h hx;exact q
  cases ht
 case makeFunc fn first captured=>
  cases fn with
  |func f=>
   simp only[cj]at ht;split at ht
   ·obtain⟨cs,hcs,rfl⟩:=Option.map_eq_some_iff.1 ht;obtain⟨ts,hts,hc⟩:=Option.bind_eq_some_iff.1 hcs;intro x hx;obtain⟨j,hj,rfl⟩:=List.getElem_of_mem hx;obtain⟨h1,h2⟩:=(pI hc).2 j _ (au hj);obtain⟨y,y1,y2⟩:=(dm hts).2 j _ h1;have q:=fh h y2;exact q
   cases ht
  |_=>simp only[cj]at ht;cases ht
 case call c=>
  obtain⟨callee,args,argTypes⟩:=c;cases callee with
  |builtin b=>
   cases b
   case len=>
    simp only[cj]at ht;split at ht
    ·split at ht
     ·injection ht with ht;subst ht;trivial
     ·injection ht with ht;subst ht;trivial
     ·injection ht with ht;subst ht;trivial
     cases ht
    cases ht
   all_goals (simp only[cj]at ht;cases ht)
  |value f=>simp only[cj]at ht;cases ht
  |invoke r m=>simp only[cj]at ht;cases ht
 all_goals (simp only[cj]at ht;cases ht)
end
end
end Go.Proofs.YtiollbhgpiiodaaGreatDoor
