/-
  Part 10 of a proof (walks and plain facts).
-/
import Derived.Test.YtalmoejhjceflaaGreatQ08
set_option linter.all false
set_option maxRecDepth 100000
set_option maxHeartbeats 64000000
namespace Go.Proofs.YtalmoejhjceflaaGreat
open Go.RowKit Go.Proofs.Tryz
variable {b:Array Oper} {s:AS} {n:Nat} {P:Program} {c:Prop} {e:Func} {f:TV} {x:Int}
section
structure Za where
 i:Nat
 d:Option Tmp
 op:Op
 g:Option (Tmp×Bool)
def He (c:Array Oper) (o:Oper) (i:Nat):Za:=match o.guard with
 |none=>⟨i,o.dst,o.op,none⟩
 |some (g,b)=>match(c[g]?).bind (·.dst)with
  |some d=>⟨i,o.dst,o.op,some (d,b)⟩
  |none=>⟨i,none,.extract (.func 0) 0,none⟩
def aK (b:Array Oper):List Oper->Nat->List Za
 |[],_=>[]
 |o::l,i=>He b o i::aK b l (i+1)
section
variable (P:Program) (items:List (cG P)) (ow:List Nat)
noncomputable def opS (i : Nat) (d : Option Tmp) (op : Op) (s : AS) : Option AS := dY P items ow i ⟨d, op, 0, "", #[], none⟩ s
noncomputable def dG:Za->AS->Option AS
 |⟨i,d,op,none⟩,s=>opS P items ow i d op s
 |⟨i,d,op,some (k,c)⟩,s=>match s.tmps[k]? with
  |some (.one (.p (.raw (.bool b))))=>if b=c then opS P items ow i d op s else some (s.put d .undef)
  |some (.tup [])=>some (s.put d .undef)
  |_=>none
noncomputable def aY:List Za->Option AS->(AS->Prop)->Prop
 |_,none,_=>False
 |[],some s,Q=>Q s
 |st::l,some s,Q=>aY l (dG P items ow st s) Q
theorem Pa (l:List Za) (Q:AS->Prop):aY P items ow l none Q=False:=by cases l<;>rfl
theorem Tm (s:AS) (Q:AS->Prop):aY P items ow [] (some s) Q=Q s:=rfl
theorem C6 (b:Za) (l:List Za) (s:AS) (Q:AS->Prop):aY P items ow (b::l) (some s) Q=aY P items ow l (dG P items ow b s) Q:=rfl
theorem yW (i : Nat) (o : Oper) (s : AS) : dY P items ow i ⟨o.dst, o.op, 0, "", #[], none⟩ s = dY P items ow i o s := rfl
theorem Cf {i:Nat} {o:Oper} {b:AS} (c:dY P items ow i o s=some b):b.tmps.length=s.tmps.length:=by
 grind [dY,Option.map_eq_some_iff,ke]
theorem Po {o:Oper} {i:Nat} {c:AS} (h:dG P items ow (He b o i) s=some c):be P items ow b i o s=some c/\c.tmps.length=s.tmps.length:=by
 unfold He at h;unfold be;cases l:o.guard with
 |none=>
  grind [dG,opS,yW,Cf]
 |some f=>
  obtain⟨g,e⟩:=f;rw[l]at h;simp only at h⊢;cases j:(b[g]?).bind (·.dst)with
  |none=>
   rw[j]at h;cases h
  |some d=>
   grind [dG,opS,yW,Cf,ke]
theorem aP (b:Array Oper): ∀(l:List Oper) (i:Nat) (s:AS) (Q:AS->Prop),aY P items ow (aK b l i) (some s) Q-> ∃e,gB P items ow b (l.zipIdx i) s=some e/\Q e
 |[],i,s,Q,h=>⟨s,rfl,h⟩
 |o::l,i,s,Q,h=>by
  simp only[aK,C6]at h;simp only[adQ,gB];cases c:dG P items ow (He b o i) s with
  |none=>grind [Pa]
  |some g=>
   rw[c]at h;obtain⟨f,j⟩:=Po P items ow c;rw[f];exact aP b l (i+1) g Q h
variable {P}
theorem qD (items:List (aq P)) (ow:List Nat) {id:Nat} {Q:Exit->AS->Prop} (h:aY P (items.map aq.a) ow (aK b b.toList 0) (some s) (Q .normal)):bA P (.region id b false) Q s:=by
 obtain⟨f,c,e⟩:=aP P (items.map aq.a) ow b b.toList 0 s (Q .normal) h;exact IQ _ (aq.ok items) ow c e
variable {items} {ow}
variable {i:Nat} {d:Option Tmp} {s:AS}
theorem Pn (op:Op) (k:Tmp) (c:Bool):dG P items ow ⟨i,d,op,some (k,c)⟩ s=match s.tmps[k]? with
  |some (.one (.p (.raw (.bool b))))=>if b=c then dG P items ow ⟨i,d,op,none⟩ s else some (s.put d .undef)
  |some (.tup [])=>some (s.put d .undef)
  |_=>none:=rfl
theorem xg {op:Op} (h:pF op=true):dG P items ow ⟨i,d,op,none⟩ s=(jV P s.ev op).map (s.put d):=by
 show dY P items ow i ⟨d, op, 0, "", #[], none⟩ s = _;grind [dY]
theorem uz {op:Op} (h:pF op=false) (h':Bw op=true):dG P items ow ⟨i,d,op,none⟩ s=(bY P s.ev s.H op).map (s.put d):=by
 show dY P items ow i ⟨d, op, 0, "", #[], none⟩ s = _;grind [dY]
theorem SR (x:Operand):dG P items ow ⟨i,d,.move x,none⟩ s=(s.ev x).map (s.put d):=xg rfl
theorem Kd (x:Operand):dG P items ow ⟨i,d,.assign x,none⟩ s=(s.ev x).map (s.put d):=xg rfl
theorem SS (c a b:Operand):dG P items ow ⟨i,d,.pick c a b,none⟩ s=(jV P s.ev (.pick c a b)).map (s.put d):=xg rfl
theorem Wt (op:BinOp) (t b:TypeId) (x y:Operand):dG P items ow ⟨i,d,.binOp op t x y b,none⟩ s=(jV P s.ev (.binOp op t x y b)).map (s.put d):=xg rfl
theorem aai (op:UnOp) (t:TypeId) (x:Operand):dG P items ow ⟨i,d,.unOp op t x,none⟩ s=(jV P s.ev (.unOp op t x)).map (s.put d):=xg rfl
theorem SP (t b:TypeId) (x:Operand):dG P items ow ⟨i,d,.convert t b x,none⟩ s=(jV P s.ev (.convert t b x)).map (s.put d):=xg rfl
theorem Ha (x:Operand) (k:Nat):dG P items ow ⟨i,d,.extract x k,none⟩ s=(jV P s.ev (.extract x k)).map (s.put d):=xg rfl
theorem SQ (t:TypeId) (x:Operand):dG P items ow ⟨i,d,.load t x,none⟩ s=(bY P s.ev s.H (.load t x)).map (s.put d):=uz rfl rfl
theorem BO (t:TypeId) (x y:Operand):dG P items ow ⟨i,d,.indexAddr t x y,none⟩ s=(bY P s.ev s.H (.indexAddr t x y)).map (s.put d):=uz rfl rfl
theorem BN (t:TypeId) (x:Operand) (f:Nat):dG P items ow ⟨i,d,.fieldAddr t x f,none⟩ s=(bY P s.ev s.H (.fieldAddr t x f)).map (s.put d):=uz rfl rfl
theorem OR (t:TypeId) (x:Operand) (f:Nat):dG P items ow ⟨i,d,.field t x f,none⟩ s=(bY P s.ev s.H (.field t x f)).map (s.put d):=uz rfl rfl
theorem OS (t:TypeId) (x:Operand) (c b e:Option Operand):dG P items ow ⟨i,d,.slice t x c b e,none⟩ s=(bY P s.ev s.H (.slice t x c b e)).map (s.put d):=uz rfl rfl
theorem OP (t:TypeId) (b:Array (Nat×Operand)):dG P items ow ⟨i,d,.build t b,none⟩ s=(bY P s.ev s.H (.build t b)).map (s.put d):=uz rfl rfl
theorem Ev (x:Operand):dG P items ow ⟨i,d,.nilCheck x,none⟩ s=(bY P s.ev s.H (.nilCheck x)).map (s.put d):=uz rfl rfl
theorem Eu (f:Fn) (b c:Array Operand):dG P items ow ⟨i,d,.makeFunc f b c,none⟩ s=(bY P s.ev s.H (.makeFunc f b c)).map (s.put d):=uz rfl rfl
theorem Ww (x y:Operand) (c:Array TypeId):dG P items ow ⟨i,d,.call {callee:= .builtin .min,args:= #[x,y],argTypes:=c},none⟩ s=(UP (fun a b=>if b<a then b else a) [s.ev x,s.ev y]).map (s.put d):=xg rfl
theorem Wv (c:Array Operand) (b:Array TypeId):dG P items ow ⟨i,d,.call {callee:= .builtin .len,args:=c,argTypes:=b},none⟩ s=(bY P s.ev s.H (.call {callee:= .builtin .len,args:=c,argTypes:=b})).map (s.put d):=uz rfl rfl
def BM (d:Nat) (s:AS):Option (TV×List OObj)->Option AS
 |some (t,[])=>some (s.put (some d) t)
 |some (t,o::l)=>(match s.H d with|[]=>some (AS.put ⟨s.tmps,aF s.H d (o::l)⟩ (some d) t)|_=>none)
 |none=>none
theorem As {op:Op} {d:Nat} (h:pF op=false) (h':Bw op=false) (hD:iv P s.ev s.H op=none):dG P items ow ⟨i,some d,op,none⟩ s=BM d s (cB P items ow i d s.ev s.H op):=by
 show dY P items ow i ⟨some d, op, 0, "", #[], none⟩ s = _;unfold dY BM;grind
theorem Wu {d:Nat} (e:TypeId) (x:Operand):dG P items ow ⟨i,some d,.box e x,none⟩ s=BM d s (cB P items ow i d s.ev s.H (.box e x)):=As rfl rfl rfl
theorem OO {d:Nat} (e:TypeId):dG P items ow ⟨i,some d,.alloc e,none⟩ s=BM d s (cB P items ow i d s.ev s.H (.alloc e)):=As rfl rfl rfl
theorem BP {d:Nat} (t:TypeId) (x y:Operand):dG P items ow ⟨i,some d,.makeSlice t x y,none⟩ s=BM d s (cB P items ow i d s.ev s.H (.makeSlice t x y)):=As rfl rfl rfl
theorem At {d:Nat} (t:TypeId) (n:Nat) (b:Array (Nat×Operand)):dG P items ow ⟨i,some d,.buildSlice t n b,none⟩ s=BM d s (cB P items ow i d s.ev s.H (.buildSlice t n b)):=As rfl rfl rfl
theorem SO {d:Nat} (f:FuncId) (c:Array Operand) (b:Array TypeId):dG P items ow ⟨i,some d,.call {callee:= .value (.func f),args:=c,argTypes:=b},none⟩ s=BM d s (cB P items ow i d s.ev s.H (.call {callee:= .value (.func f),args:=c,argTypes:=b})):=As rfl rfl rfl
theorem OQ {d:Nat} (k:Tmp) (c:Array Operand) (b:Array TypeId):dG P items ow ⟨i,some d,.call {callee:= .value (.tmp k),args:=c,argTypes:=b},none⟩ s=BM d s (cB P items ow i d s.ev s.H (.call {callee:= .value (.tmp k),args:=c,argTypes:=b})):=As rfl rfl rfl
def wrS (d:Option Tmp) (s:AS):Option IF->Option AS
 |some q=>some (AS.put ⟨s.tmps.map (aT q.k),q.H⟩ d q.t)
 |none=>none
theorem OT (t:TypeId) (x y:Operand):dG P items ow ⟨i,d,.store t x y,none⟩ s=wrS d s (iv P s.ev s.H (.store t x y)):=by
 show dY P items ow i ⟨d, .store t x y, 0, "", #[], none⟩ s = _;grind [dY,wrS,pF,Bw,cB]
def abi (d:Nat) (s:AS) (q:Option IF) (r:Option (TV×List OObj)):Option AS:=match q with
 |some q=>wrS (some d) s (some q)
 |none=>BM d s r
theorem Kc {d:Nat} (xs:Array Operand) (ts:Array TypeId):dG P items ow ⟨i,some d,.call {callee:= .builtin .append,args:=xs,argTypes:=ts},none⟩ s=
  abi d s (iv P s.ev s.H (.call {callee:= .builtin .append,args:=xs,argTypes:=ts})) (cB P items ow i d s.ev s.H (.call {callee:= .builtin .append,args:=xs,argTypes:=ts})):=by
 cases hq:iv P s.ev s.H (.call {callee:= .builtin .append,args:=xs,argTypes:=ts})with
 |some q=>
  show dY P items ow i ⟨some d, .call { callee := .builtin .append, args := xs, argTypes := ts }, 0, "", #[], none⟩ s = _;unfold dY;simp only[pF,VU,Bw,Bool.false_eq_true,if_false,hq];rfl
 |none=>exact As rfl rfl hq
end
end
section
def Hm:List (Nat×List OObj)->OH
 |[],_=>[]
 |(k,F)::l,a=>if a=k then F else Hm l a
def Y3 (H:OH):List (Nat×List OObj)->Prop
 |[]=>True
 |(k,F)::l=>H k=F/\Y3 H l
def Es (b:List Nat):AV->Bool
 | .sl a _ _ _=>b.contains a
 | .ptr a _ _ _=>b.contains a
 | .fn _ a _=>b.contains a
 |_=>true
def Ws (b:List Nat):TV->Bool
 | .one x=>Es b x
 | .agg c=>c.all (Es b)
 | .fn _ c=>c.all (Es b)
 | .tup e=>e.all fun t=>t.2.all (Es b)
def wkL (b:List Nat):List TV->List TV->Prop
 |[],[]=>True
 |x::c,y::e=>(y= .one .junk\/(y=x/\Ws b y=true))/\wkL b c e
 |_,_=>False
section
variable {P:Program} {w0 w w':World} {O X:Nat->Prop} {ρ:Rho} {H:OH}
theorem Lr {H:OH}: ∀{l:List (Nat×List OObj)},Y3 H l-> ∀a,((l.map (·.1)).contains a=true->Hm l a=H a)/\((l.map (·.1)).contains a=false->Hm l a=[])
 |[],_,a=>⟨fun h=>by simp at h,fun _=>rfl⟩
 |(k,F)::l,h,a=>by
  obtain⟨f,b⟩:=h;obtain⟨c,e⟩:=Lr b a;grind [Hm]
theorem Fe {b:List Nat}: ∀{l m:List TV},wkL b l m->m.length=l.length/\ ∀(t:Nat) y,m[t]?=some y->y= .one .junk\/(l[t]?=some y/\Ws b y=true)
 |[],[],_=>⟨rfl,fun t y h=>by simp at h⟩
 |x::e,y::f,h=>by
  obtain⟨n,c⟩:=h;obtain⟨g,j⟩:=Fe c;grind
 |[],y::f,h=>h.elim
 |x::e,[],h=>h.elim
theorem Xq {s:OH} {Y t:Nat->Prop} {u:List Nat} (l: ∀a,u.contains a=true->s a=H a) (z: ∀b,t b->Y b) {x:AV} {v:Value} (m:Es u x=true) (h:x.rel ρ H Y w v):x.rel ρ s t w v:=by
 cases x with
 |p x=>exact bS.weaken (fun b _ A=>z b A) h
 |sl a r B len=>
  obtain⟨o,e,g⟩:=h;exact⟨o,by rw[l a m];exact e,g⟩
 |ptr a r i j=>
  obtain⟨o,b,c,e,g⟩:=h;exact⟨o,b,c,by rw[l a m];exact e,g⟩
 |fn f a E=>
  obtain⟨vs,e,g,y,C⟩:=h;exact⟨vs,e,g,y,fun n q D=>by rw[l a m];grind⟩
 |junk=>trivial
theorem aj {tm:List TV} {l:List (Nat×List OObj)} (hl:Y3 s.H l) (ht:wkL (l.map (·.1)) s.tmps tm):bJ s ⟨tm,Hm l⟩:=by
 rintro w0 O X a w ⟨K,aa,ρ,g,Q⟩;obtain⟨t1,t2⟩:=Fe ht;have hk:=fun a=>Lr hl a
 have m: ∀(a r:Nat) o,(Hm l a)[r]?=some o->(l.map (·.1)).contains a=true/\(s.H a)[r]?=some o:=fun a r o q=>by
  grind
 have L: ∀b,Xo X ρ (Hm l) b->Xo X ρ s.H b:=fun b M=>by
  rcases M with M|⟨x,y,o,n,G,I⟩
  ·exact .inl M
  exact .inr ⟨x,y,o,n,(m x y o G).2,I⟩
 have E: ∀x v,Es (l.map (·.1)) x=true->AV.rel ρ s.H (Xo X ρ s.H) w x v->AV.rel ρ (Hm l) (Xo X ρ (Hm l)) w x v:=fun x v q h=>Xq (fun a ha=>(hk a).1 ha) L q h
 have D: ∀z v,z.all (Es (l.map (·.1)))=true->bM ρ s.H (Xo X ρ s.H) w z v->bM ρ (Hm l) (Xo X ρ (Hm l)) w z v:=fun z v q h=>by
  simp only[acr]at q;obtain⟨vs,G,I,g3⟩:=h;exact⟨vs,G,I,fun j x F=>by grind⟩
 refine⟨K,by grind,ρ,⟨g.keep,fun a r o q=>?_,fun a r S W o U b c Z q A=>g.inj a r S W o U b c Z (m a r o q).2 (m S W U A).2,fun a r o b c q=>g.old a r o b c (m a r o q).2,g.bar,fun a r o q=>g.self a r o (m a r o q).2⟩,fun t x F=>?_⟩
 ·obtain⟨N,A⟩:=m a r o q;obtain⟨q1,q2,V⟩:=g.objs a r o A;refine⟨q1,q2,?_⟩;cases hr:ρ a r with
  |none=>grind
  |some Y=>
   obtain⟨b,c⟩:=Y;rw[hr]at V;obtain⟨cells,p1,p2,p3,p4,p5⟩:=V;refine⟨cells,p1,p2,p3,p4,fun i e j x T F=>?_⟩;obtain⟨u,u1,u2,u3⟩:=p5 i e j x T F;have C:=g.self a r o A e (acd T) x (acd F);refine⟨u,u1,u2,E x u ?_ u3⟩;cases x with
   |sl y _ _ _=>have C:y=a:=C;subst C;exact N
   |ptr y _ _ _=>have C:y=a:=C;subst C;exact N
   |fn _ y _=>have C:y=a:=C.1;subst C;exact N
   |p y=>rfl
   |junk=>rfl
 rcases t2 t x F with rfl|⟨R,B⟩
 ·obtain⟨v,hv⟩: ∃v,a.tmps[t]?=some v:=by
   have:t<tm.length:=(aci.1 F).1;simp_all
  exact⟨v,hv,trivial⟩
 obtain⟨v,v1,J⟩:=Q t x R;refine⟨v,v1,?_⟩;cases x with
 |one x=>exact E x v B J
 |agg z=>exact D z v B J
 |fn f z=>obtain⟨u,K,h2⟩:=J;exact⟨u,D z u B K,h2⟩
 |tup ts=>
  simp only[Ws,acr]at B;obtain⟨vs,G,I,g3⟩:=J;refine⟨vs,G,I,fun j b z hj=>?_⟩;grind
theorem cz {k d:Nat} (E:TypeId) (y:Nat) (F:0<y) (K:s.H d=[]) (M:s.tmps[k]?=some (.raw (.slice none 0 0))):bJ s ⟨s.tmps.set k (.one (.sl d 0 0 0)),aF s.H d [⟨E,y,[]⟩]⟩:=by
 rintro w0 O X a w ⟨J,N,ρ,f,n⟩;have n:bo X ρ s a w:=n;obtain⟨v,T,U⟩:=n k _ M;have Q:=(aZ U).1;subst Q;have A: ∀(r b c:Nat),(fun _=>none:Nat->Option (Nat×Nat)) r=some (b,c)->w.heap.size<=b:=fun r b c h=>by cases h
 have m: ∀x u,AV.rel ρ s.H (Xo X ρ s.H) w x u->AV.rel (newρ ρ d fun _=>none) (aF s.H d [⟨E,y,[]⟩]) (Xo X (newρ ρ d fun _=>none) (aF s.H d [⟨E,y,[]⟩])) w x u:=fun x u h=>kH f (Ext.refl w) K A h
 refine⟨J,by grind,newρ ρ d fun _=>none,⟨f.keep,fun l r o g=>?_,fun l r q S o R b c I g B C D=>?_,fun l r o b c g C=>?_,f.bar,fun l r o g=>?_⟩,fun t x p=>?_⟩
 ·by_cases j:l=d
  ·subst j;simp only[aS]at g;cases r with
   |succ r=>simp at g
   |zero=>simp at g;subst g;exact⟨by simp,F,by rw[newρ_eq]⟩
  simp only[aM j]at g;exact d9 (f.objs l r o g) (newρ_ne j r) (fun b c V=>rfl) m
 ·by_cases j:l=d
  ·grind [newρ_eq]
  by_cases z:q=d
  ·grind [newρ_eq]
  rw[newρ_ne j]at C;rw[newρ_ne z]at D;simp only[aM j]at g;simp only[aM z]at B;exact f.inj l r q S o R b c I g B C D
 ·by_cases j:l=d
  ·grind [newρ_eq]
  rw[newρ_ne j]at C;simp only[aM j]at g;exact f.old l r o b c g C
 ·by_cases j:l=d
  ·subst j;simp only[aS]at g;cases r with
   |succ r=>simp at g
   |zero=>simp at g;subst g;exact fun e L=>by simp at L
  simp only[aM j]at g;exact f.self l r o g
 by_cases G:k=t
 ·subst G;simp only[adj,if_true]at p;split at p
  ·injection p with p
   subst p;exact⟨_,T,⟨E,y,[]⟩,by grind [aS],by simp,.inl ⟨by rw[newρ_eq],rfl,rfl,rfl⟩⟩
  cases p
 grind [TV.rel_map]
theorem qU {Y Z:Nat->Prop} {a f len:Nat} {o:OObj} {v:Value} {F:AV->PV} (E:objRel ρ H Y w a n o) (Q:(H a)[n]?=some o) (g: ∀e∈o.elems,∀x∈e,∀u,x.rel ρ H Y w u->bS Z w (F x) u) (D: ∀b c,ρ a n=some (b,c)-> ¬Z b) (h:AV.rel ρ H Y w (.sl a n f len) v):bS Z w (.sl (((o.elems.take (f+len)).drop f).map (List.map F))) v:=by
 obtain⟨o',A,V,M⟩:=h;rw[Q]at A;injection A with A
 subst A;obtain⟨q1,q2,K⟩:=E;have J:(((o.elems.take (f+len)).drop f).map (List.map F)).length=len:=by simp;omega
 rcases M with⟨C,B,N,W⟩|⟨b,c,cap,C,B,I,_⟩
 ·rw[ad0.1 (J.trans N),B];exact bS.nil _ _
 by_cases t:len=0
 ·rw[ad0.1 (J.trans t),B,t];exact bS.nil _ _
 rw[C]at K;obtain⟨cells,R,p2,p3,p4,S⟩:=K;have y: ∀(i:Nat) e,(((o.elems.take (f+len)).drop f).map (List.map F))[i]?=some e-> ∃p,o.elems[f+i]?=some p/\e=p.map F:=fun i e l=>by
  grind
 have q: ∀(i:Nat) e (j:Nat) x,(((o.elems.take (f+len)).drop f).map (List.map F))[i]?=some e->e[j]?=some x-> ∃u:Value,cells[(f+i)*o.es+j]?=some u/\bS Z w x u:=fun i e j x l m=>by
  obtain⟨p,s,rfl⟩:=y i e l;rw[ach]at m;obtain⟨L,z,rfl⟩:=acf.1 m;obtain⟨u,G,T,U⟩:=S _ p j L s z;exact⟨u,G,g p (acd s) L (acd z) u U⟩
 rw[B];have:=bS.sl (X:=Z) (w:=w) b (f*o.es) o.es cap (((o.elems.take (f+len)).drop f).map (List.map F)) (fun i j=>(cells[(f+i)*o.es+j]?).getD undef) (D b c C) (acB.1 R).1
  (fun e l=>by
   grind [List.mem_of_mem_drop]) (by omega) (by omega)
  (fun i e j x l m=>by
   obtain⟨u,G,_⟩:=q i e j x l m;grind [cell_of_row])
  (fun i e j x l m=>by
   obtain⟨u,G,T⟩:=q i e j x l m;grind)
 grind
def po (H:OH) (a:Nat):AV->PV
 | .p x=>x
 | .sl _ r b len=>match(H a)[r]? with
  |some o=> .sl (((o.elems.take (b+len)).drop b).map (List.map yu))
  |none=> .raw undef
 |_=> .raw undef
def dP (H:OH) (a:Nat):AV->AV
 | .sl b r c len=>if b=a then(match(H a)[r]? with
  |some o=> .p (.sl (((o.elems.take (c+len)).drop c).map (List.map (po H a))))
  |none=> .junk)else .sl b r c len
 | .ptr b r i j=>if b=a then .junk else .ptr b r i j
 | .fn f b e=>if b=a then .junk else .fn f b e
 |x=>x
theorem GV (H:OH) (a:Nat):rE (dP H a):=fun f b e=>by
 by_cases h:b=a
 ·exact .inl (if_pos h)
 exact .inr ⟨b,e,if_neg h,rfl,fun n q c=>⟨q,c,if_neg h⟩⟩
def fk (H:OH) (a:Nat):TV->TV
 | .one x=> .one (dP H a x)
 | .agg b=> .agg (b.map (dP H a))
 | .fn f b=> .fn f (b.map (dP H a))
 | .tup c=> .tup (c.map fun t=>(t.1,t.2.map (dP H a)))
def eB (o:OObj):Prop:= ∀e∈o.elems,∀x∈e,isPure x=true
def xG (H:OH) (a:Nat):Prop:= ∀(r:Nat) o,(H a)[r]?=some o-> ∀e∈o.elems,∀x∈e,isPure x=true\/ ∃f b len c,x= .sl a f b len/\(H a)[f]?=some c/\eB c
theorem bF {s:AS} (a:Nat) (aa:xG s.H a):bJ s ⟨s.tmps.map (fk s.H a),aF s.H a []⟩:=by
 rintro w0 O X W w ⟨Z,ad,ρ,g,L⟩;have L:bo X ρ s W w:=L;have q: ∀(x y:Nat) o,(aF s.H a [] x)[y]?=some o->x≠a/\(s.H x)[y]?=some o:=fun x y o B=>by
  grind [aS,aM]
 have Q: ∀b,Xo X ρ (aF s.H a []) b->Xo X ρ s.H b:=fun b A=>by
  rcases A with A|⟨x,y,o,n,m,D⟩
  ·exact .inl A
  exact .inr ⟨x,y,o,n,(q x y o m).2,D⟩
 have R: ∀(r:Nat) o,(s.H a)[r]?=some o-> ∀b c,ρ a r=some (b,c)-> ¬Xo X ρ (aF s.H a []) b:=fun r o B b c T hX=>by
  rcases hX with hX|⟨x,y,J,n,m,D⟩
  ·exact(g.old a r o b c B T).2 hX
  obtain⟨I,Y⟩:=q x y J m;exact I (g.inj x y a r J o b n c Y B D T).1
 have C: ∀x u,isPure x=true->AV.rel ρ s.H (Xo X ρ s.H) w x u->bS (Xo X ρ (aF s.H a [])) w (yu x) u:=fun x u S h=>by
  cases x<;>first|exact bS.weaken (fun b _ A=>Q b A) h|cases S
 have K: ∀(r:Nat) o,(s.H a)[r]?=some o-> ∀e∈o.elems,∀x∈e,∀u,AV.rel ρ s.H (Xo X ρ s.H) w x u->bS (Xo X ρ (aF s.H a [])) w (po s.H a x) u:=fun r o B e M x I u U=>by
  rcases aa r o B e M x I with S|⟨r',ac,len,J,rfl,l,ab⟩
  ·have:=C x u S U;cases x<;>first|exact this|cases S
  simp only[po,l];exact qU (g.objs a r' J l) l (fun e M y hy u U=>C y u (ab e M y hy) U) (R r' J l) U
 have G: ∀x v,AV.rel ρ s.H (Xo X ρ s.H) w x v->AV.rel ρ (aF s.H a []) (Xo X ρ (aF s.H a [])) w (dP s.H a x) v:=ic (GV s.H a) fun x v hn h=>by
  cases x with
  |fn=>cases hn
  |p x=>exact bS.weaken (fun b _ A=>Q b A) h
  |sl b r ac len=>
   simp only[dP];by_cases A:b=a
   ·subst A;rw[if_pos rfl];have h':=h;obtain⟨o,m,D,g3⟩:=h;rw[m];exact qU (g.objs b r o m) m (K r o m) (R r o m) h'
   rw[if_neg A];obtain⟨o,m,D⟩:=h;exact⟨o,by grind [aM],D⟩
  |ptr b r i j=>
   simp only[dP];by_cases A:b=a
   ·subst A;rw[if_pos rfl];trivial
   rw[if_neg A];obtain⟨o,b',c,m,D⟩:=h;exact⟨o,b',c,by grind [aM],D⟩
  |junk=>trivial
 have F: ∀E v,bM ρ s.H (Xo X ρ s.H) w E v->bM ρ (aF s.H a []) (Xo X ρ (aF s.H a [])) w (E.map (dP s.H a)) v:=fun E v h=>by
  obtain⟨vs,m,D,g3⟩:=h;refine⟨vs,m,by grind,fun j x I=>?_⟩;grind
 refine⟨Z,by grind,ρ,⟨g.keep,fun x y o B=>?_,fun x y x' y' o J b c c' B l=>g.inj x y x' y' o J b c c' (q x y o B).2 (q x' y' J l).2,fun x y o b c B=>g.old x y o b c (q x y o B).2,g.bar,fun x y o B=>g.self x y o (q x y o B).2⟩,fun t x I=>?_⟩
 ·obtain⟨I,l⟩:=q x y o B;obtain⟨q1,q2,q3⟩:=g.objs x y o l;refine⟨q1,q2,?_⟩;cases T:ρ x y with
  |none=>grind
  |some bc=>
   obtain⟨b,c⟩:=bc;rw[T]at q3;obtain⟨cells,p1,p2,p3,p4,p5⟩:=q3;refine⟨cells,p1,p2,p3,p4,fun i e j z M hz=>?_⟩;obtain⟨u,u1,u2,u3⟩:=p5 i e j z M hz;have N:=g.self x y o l e (acd M) z (acd hz);have:=G z u u3;refine⟨u,u1,u2,?_⟩;cases z with
   |sl z _ _ _=>have N:z=x:=N;grind [dP]
   |ptr z _ _ _=>have N:z=x:=N;grind [dP]
   |fn _ z _=>have N:z=x:=N.1;grind [dP]
   |p z=>exact this
   |junk=>trivial
 simp only[ach]at I;obtain⟨y,hy,rfl⟩:=acf.1 I;obtain⟨v,v1,V⟩:=L t y hy;refine⟨v,v1,?_⟩;cases y with
 |one x=>exact G x v V
 |agg E=>exact F E v V
 |fn f E=>obtain⟨u,Z,h2⟩:=V;exact⟨u,F E u Z,h2⟩
 |tup ts=>
  obtain⟨vs,m,D,g3⟩:=V;refine⟨vs,m,by grind,fun j b E hj=>?_⟩;grind
end
end
section
section
variable {P:Program} {s:AS} {Q:Exit->AS->Prop} {x y z:Code}
theorem bC (c:List (aq P)) (e:List Nat) {id:Nat} (h: ∀K:AS->Prop,(∀f,bA P y Q f->K f)->aY P (c.map aq.a) e (aK b b.toList 0) (some s) K):bA P (.seq (.region id b false) y) Q s:=
 ai (qD c e (h _ fun _ h=>h))
theorem pL (c:List (aq P)) (e:List Nat) {id:Nat} (h: ∀K:AS->Prop,(∀f,Q .normal f->K f)->aY P (c.map aq.a) e (aK b b.toList 0) (some s) K):bA P (.region id b false) Q s:=
 qD c e (h _ fun _ h=>h)
theorem aw {y:Code} {id:Nat} (h: ∀K:AS->Prop,(∀c,bA P y Q c->K c)->aY P [] [] (aK b b.toList 0) (some s) K):bA P (.seq (.region id b false) y) Q s:=bC [] [] h
theorem g9 {id:Nat} (h: ∀K:AS->Prop,(∀c,Q .normal c->K c)->aY P [] [] (aK b b.toList 0) (some s) K):bA P (.region id b false) Q s:=pL [] [] h
theorem Dy {G:Type} (St:G->AS) (b:G->Nat) (e:G) {id:Nat} (f:bJ s (St e))
  (round: ∀g,bA P x (iH (fun h=> ∃c,b c<b g/\bJ h (St c)) (ou id (iH (bA P y Q) Q))) (St g)):bA P (.seq (.block id (.loop x)) y) Q s:=
 ai (am (FC St b e f round))
theorem ay {G:Type} (St:G->AS) (b:G->Nat) (e:G) {id:Nat} (f:bJ s (St e))
  (round: ∀g,bA P x (iH (fun h=> ∃c,b c<b g/\bJ h (St c)) (ou id Q)) (St g)):bA P (.block id (.loop x)) Q s:=
 am (FC St b e f round)
theorem aL {n:Int} (b: -9223372036854775808<=n) (c:n<=9223372036854775807):IntKind.i64.wrap n=n:=afk _ (by omega)
theorem cJ {n:Int} (b:0<=n) (c:n<18446744073709551616):IntKind.u64.wrap n=n:=by rw[adb];omega
theorem Nj {n:Int} (b:0<=n) (c:n<4294967296):IntKind.u32.wrap n=n:=by rw[ad8];omega
theorem NM {f:FuncId} {args:List TV} {res:CallRes} (k:Nat) (j:List (List PV)) (r:args[k]?=some (.one (.p (.sl j)))) (h:j.length<=9223372036854775807->CallC P f args res) (n:callable P f=true):CallC P f args res:=by
 refine⟨n,fun X w vs m l e=>?_⟩;obtain⟨v,_,g⟩:=e k _ r;have g:bS X w (.sl j) v:=g;refine(h ?_).2 X w vs m l e;cases g with
 |nil a c=>simp
 |sl b u A cap j f m B q o t n g=>exact t
end
end
section
def ls {b:Type} (f:b->List PV) (l:List b):List (List PV):=l.map f
def lc {b:Type} (f:b->List PV) (l:List b):List (List AV):=l.map fun x=>(f x).map AV.p
section
variable {α:Type} {f:α->List PV}
theorem d8 (l:List α):(ls f l).length=l.length:=by simp[ls]
theorem jY (l:List α):(lc f l).length=l.length:=by simp[lc]
theorem gV (l:List α) (i:Nat):(ls f l)[i]?=(l[i]?).map f:=by simp[ls]
theorem D8 (l:List α) (i:Nat):(lc f l)[i]?=(l[i]?).map fun x=>(f x).map AV.p:=by simp[lc]
theorem Wc (l:List α) (i:Nat):(ls f l).take i=ls f (l.take i):=by simp[ls]
theorem Wb (l:List α) (i:Nat):(ls f l).drop i=ls f (l.drop i):=by simp[ls]
theorem iK (l:List α) (i:Nat):(lc f l).take i=lc f (l.take i):=by simp[lc]
theorem D7 (l:List α) (i:Nat):(lc f l).drop i=lc f (l.drop i):=by simp[lc]
theorem Z7 (l:List α):(ls f l).map (List.map AV.p)=lc f l:=by simp[ls,lc]
theorem We (l:List PV):(l.map AV.p).map yu=l:=by rw[adH];exact(acH (fun _ _=>rfl)).trans (adL l)
theorem qP (l:List α):(lc f l).map (List.map yu)=ls f l:=by
 grind [ls,lc,List.map_congr_left,We]
theorem gz (H:OH) (a:Nat) (l:List α):(lc f l).map (List.map (po H a))=ls f l:=by
 simp only[ls,lc,adH];refine acH fun x _=>?_
 show((f x).map AV.p).map (po H a)=f x;rw[adH];exact(acH (fun _ _=>rfl)).trans (adL _)
theorem D6 (l:List α):((lc f l).all fun e=>e.all isPure)=true:=by
 simp[lc,isPure]
theorem JW (l m:List α):lc f l++lc f m=lc f (l++m):=by simp[lc]
theorem Mr (x:α) (l:List α):ls f (x::l)=f x::ls f l:=rfl
theorem D9:lc f []=[]:=rfl
theorem Z6:ls f []=[]:=rfl
theorem wj (l:List α) (i:Nat) (x:α):(lc f l).set i ((f x).map AV.p)=lc f (l.set i x):=by simp_all[lc]
theorem dW (e: ∀x,(f x).length=n) (l:List α):(∀c∈ls f l,c.length=n)=True:=by
 simp only[eq_iff_iff,iff_true];intro c b;obtain⟨x,_,rfl⟩:=acn.1 b;exact e x
theorem iz (e: ∀x,(f x).length=n) (l:List α):(∀c∈lc f l,c.length=n)=True:=by
 simp only[eq_iff_iff,iff_true];intro c b;obtain⟨x,_,rfl⟩:=acn.1 b;grind
theorem x5 (k:Nat->Nat->Bool) (l:List α):(lc f l).map (List.map (aR k))=lc f l:=by
 grind [lc,List.map_congr_left,aR]
theorem gT (d:Nat) (l:List α):(lc f l).map (List.map (b6 d))=lc f l:=by
 grind [lc,List.map_congr_left,b6]
theorem OC (h:0<=x):CM x=some x.toNat:=if_pos h
theorem bL (t:TypeId) (n:Nat) (l:List α):eB ⟨t,n,lc f l⟩:=fun e b x c=>by
 obtain⟨y,_,rfl⟩:=acn.1 b;obtain⟨z,_,rfl⟩:=acn.1 c;rfl
theorem bf {H:OH} {a:Nat} {t:TypeId} {l:List α} (h:H a=[⟨t,n,lc f l⟩]):xG H a:=fun r o b e c x g=>by
 rw[h]at b;cases r with
 |succ r=>simp at b
 |zero=>simp at b;subst b;exact .inl (bL t n l e c x g)
end
theorem Zm {b:Type} (p:b->Prop):(∀e∈([]:List b),p e)=True:=by simp
theorem Vj {b:Type} (p:b->Prop) (x:b) (l:List b):(∀e∈x::l,p e)=(p x/\ ∀e∈l,p e):=by simp
theorem ifT [Decidable c] (h:c) {e:Type} (a b:e):(if c then a else b)=a:=if_pos h
theorem ifF [Decidable c] (h: ¬c) {e:Type} (a b:e):(if c then a else b)=b:=if_neg h
theorem abX [Decidable c] (h:c):decide c=true:=decide_eq_true h
theorem abW [Decidable c] (h: ¬c):decide c=false:=decide_eq_false h
def fU (n:Nat):List PV:=[.raw (.int .u32 (n:Int))]
theorem mP (n:Nat):(fU n).length=1:=rfl
def fI (z:Int):List PV:=[.raw (.int .i64 z)]
theorem DU (n:Int):(fI n).length=1:=rfl
def fN (z:Nat):List PV:=[.raw (.int .i64 (z:Int))]
theorem An {d:Nat} (h:noRefTV f=true):selfTV d f/\renTV 0 f=f:=by
 have e: ∀x,gO x=true->bH d x/\b6 0 x=x:=fun x c=>by cases x<;>first|exact⟨trivial,rfl⟩|cases c
 cases f with
 |one x=>exact⟨(e x h).1,by simp only[renTV,(e x h).2]⟩
 |agg j=>
  simp only[noRefTV,acr]at h;exact⟨fun x c=>(e x (h x c)).1,by simp only[renTV];congr 1;exact(acH fun x c=>(e x (h x c)).2).trans (adL _)⟩
 |fn b j=>
  simp only[noRefTV,acr]at h;exact⟨fun x c=>(e x (h x c)).1,by simp only[renTV];congr 1;exact(acH fun x c=>(e x (h x c)).2).trans (adL _)⟩
 |tup l=>
  simp only[noRefTV,acr]at h;refine⟨fun f g x c=>(e x (h f g x c)).1,?_⟩;simp only[renTV]
  congr 1
  refine(acH fun f g=>?_).trans (adL _);show(f.1,f.2.map (b6 0))=f;rw[(acH fun x c=>(e x (h f g x c)).2).trans (adL f.2)]
theorem kB (l:List Nat) (a:Nat):lc fU l++[[AV.p (.raw (.int .u32 (a:Int)))]]=lc fU (l++[a]):=by simp[lc,fU]
theorem qb (l:List Int) (a:Int):lc fI l++[[AV.p (.raw (.int .i64 a))]]=lc fI (l++[a]):=by simp[lc,fI]
theorem qc (l:List Nat) (a:Nat):lc fN l++[[AV.p (.raw (.int .i64 (a:Int)))]]=lc fN (l++[a]):=by simp[lc,fN]
theorem nJ {d:Nat} (b:s.H d=[]) (h:rA P s e.results.toList=some f) (c:noRefTV f=true):nd P e ⟨[],f⟩ s:=
 ⟨f,d,h,Pe (An c).1 b,by rw[b];rfl,(An (d:=0) c).2.symm⟩
theorem dp (d:Nat) (b:xG s.H d) (h:rA P ⟨s.tmps.map (fk s.H d),aF s.H d []⟩ e.results.toList=some f) (g:noRefTV f=true): ∃c,bJ s c/\nd P e ⟨[],f⟩ c:=
 ⟨_,bF d b,nJ (d:=d) (by simp[aF]) h g⟩
theorem b8 (c:s.H 1000=[]) (h:rA P s e.results.toList=some f) (g:noRefTV f=true): ∃b,bJ s b/\nd P e ⟨[],f⟩ b:=
 ⟨_,bJ.refl _,nJ c h g⟩
end
theorem Ps:iD prog 131=some false:=by kernel_rfl
theorem Pt:iD prog 133=some true:=by kernel_rfl
theorem Pu:iD prog 143=some true:=by kernel_rfl
theorem Pv:iD prog 165=some false:=by kernel_rfl
theorem Pw:iD prog 180=some true:=by kernel_rfl
theorem Px:iD prog 182=some false:=by kernel_rfl
theorem Py:iD prog 188=some true:=by kernel_rfl
theorem Pz:iD prog 190=some false:=by kernel_rfl
theorem Xz:iD prog 2=some false:=by kernel_rfl
theorem T5:iD prog 22=some false:=by kernel_rfl
theorem PA:iD prog 224=some true:=by kernel_rfl
theorem T6:iD prog 24=some true:=by kernel_rfl
theorem T7:iD prog 26=some false:=by kernel_rfl
theorem T8:iD prog 28=some false:=by kernel_rfl
theorem T9:iD prog 29=some false:=by kernel_rfl
theorem XA:iD prog 3=some false:=by kernel_rfl
theorem Ua:iD prog 35=some false:=by kernel_rfl
theorem yp:iD prog 4=some false:=by kernel_rfl
theorem Ub:iD prog 42=some false:=by kernel_rfl
theorem XC:iD prog 5=some false:=by kernel_rfl
theorem vp:iD prog 63=some false:=by kernel_rfl
theorem vq:iD prog 65=some true:=by kernel_rfl
theorem Uc:iD prog 75=some true:=by kernel_rfl
theorem Ud:iD prog 76=some false:=by kernel_rfl
theorem Ue:iD prog 79=some false:=by kernel_rfl
theorem Uf:iD prog 84=some false:=by kernel_rfl
theorem Ug:iD prog 85=some false:=by kernel_rfl
theorem Uh:iD prog 87=some true:=by kernel_rfl
theorem Br:zc prog 3=false:=by kernel_rfl
theorem vr:zc prog 4=true:=by kernel_rfl
theorem Ui:LK prog 133=some 16:=by kernel_rfl
theorem Uj:LK prog 165=some 4:=by kernel_rfl
theorem aaW:LK prog 2=some 8:=by kernel_rfl
theorem aaX:LK prog 3=some 8:=by kernel_rfl
theorem XD:LK prog 35=some 24:=by kernel_rfl
theorem XE:LK prog 42=some 24:=by kernel_rfl
theorem XF:LK prog 65=some 32:=by kernel_rfl
theorem XG:LK prog 75=some 32:=by kernel_rfl
theorem XH:LK prog 85=some 24:=by kernel_rfl
theorem Ij:dz prog 133 0=some (0,2):=by kernel_rfl
theorem Ik:dz prog 133 1=some (1,2):=by kernel_rfl
theorem Il:dz prog 143 0=some (0,65):=by kernel_rfl
theorem Im:dz prog 143 1=some (2,65):=by kernel_rfl
theorem In:dz prog 180 0=some (0,35):=by kernel_rfl
theorem Io:dz prog 180 1=some (1,26):=by kernel_rfl
theorem Ip:dz prog 188 0=some (0,35):=by kernel_rfl
theorem Iq:dz prog 188 1=some (1,26):=by kernel_rfl
theorem Ir:dz prog 222 0=some (0,2):=by kernel_rfl
theorem Is:dz prog 222 1=some (1,35):=by kernel_rfl
theorem It:dz prog 222 2=some (2,26):=by kernel_rfl
theorem Iu:dz prog 222 3=some (3,35):=by kernel_rfl
theorem Iv:dz prog 224 0=some (0,84):=by kernel_rfl
theorem Iw:dz prog 224 1=some (1,85):=by kernel_rfl
theorem KQ:dz prog 24 0=some (0,5):=by kernel_rfl
theorem KR:dz prog 24 1=some (1,5):=by kernel_rfl
theorem KS:dz prog 24 2=some (2,22):=by kernel_rfl
theorem pe:dz prog 65 0=some (0,4):=by kernel_rfl
theorem pi:dz prog 65 1=some (1,63):=by kernel_rfl
theorem KT:dz prog 75 0=some (0,2):=by kernel_rfl
theorem KU:dz prog 75 1=some (1,35):=by kernel_rfl
theorem KV:dz prog 87 0=some (0,3):=by kernel_rfl
theorem KW:dz prog 87 1=some (1,84):=by kernel_rfl
theorem KX:dz prog 87 2=some (2,85):=by kernel_rfl
theorem PB:D0 prog 116=some .u64:=by kernel_rfl
theorem PC:D0 prog 165=some .u32:=by kernel_rfl
theorem XI:D0 prog 2=some .i64:=by kernel_rfl
theorem XJ:D0 prog 3=some .i64:=by kernel_rfl
theorem XK:D0 prog 5=some .u8:=by kernel_rfl
theorem PE:iL prog 104=some [(0,1),(1,1)]:=by kernel_rfl
theorem PF:iL prog 133=some [(0,1),(1,1)]:=by kernel_rfl
theorem PG:iL prog 143=some [(0,2),(2,2)]:=by kernel_rfl
theorem PH:iL prog 180=some [(0,1),(1,1)]:=by kernel_rfl
theorem PI:iL prog 188=some [(0,1),(1,1)]:=by kernel_rfl
theorem PJ:iL prog 222=some [(0,1),(1,1),(2,1),(3,1)]:=by kernel_rfl
theorem PK:iL prog 224=some [(0,1),(1,1)]:=by kernel_rfl
theorem vt:iL prog 65=some [(0,1),(1,1)]:=by kernel_rfl
theorem Uk:iL prog 75=some [(0,1),(1,1)]:=by kernel_rfl
theorem Ul:iL prog 87=some [(0,1),(1,1),(2,1)]:=by kernel_rfl
theorem KY:dN prog 26=some 35:=by kernel_rfl
theorem KZ:dN prog 28=some 3:=by kernel_rfl
theorem K0:dN prog 35=some 2:=by kernel_rfl
theorem K1:dN prog 42=some 85:=by kernel_rfl
theorem pj:dN prog 63=some 165:=by kernel_rfl
theorem K2:dN prog 72=some 75:=by kernel_rfl
theorem K3:dN prog 76=some 133:=by kernel_rfl
theorem K4:dN prog 84=some 42:=by kernel_rfl
theorem K5:dN prog 85=some 65:=by kernel_rfl
theorem Um:i7 prog 131=some 1:=by kernel_rfl
theorem Un:i7 prog 133=some 2:=by kernel_rfl
theorem Uo:i7 prog 143=some 4:=by kernel_rfl
theorem Up:i7 prog 165=some 1:=by kernel_rfl
theorem Uq:i7 prog 180=some 2:=by kernel_rfl
theorem Ur:i7 prog 182=some 1:=by kernel_rfl
theorem Us:i7 prog 188=some 2:=by kernel_rfl
theorem Ut:i7 prog 190=some 1:=by kernel_rfl
theorem aaY:i7 prog 2=some 1:=by kernel_rfl
theorem XL:i7 prog 22=some 1:=by kernel_rfl
theorem Uu:i7 prog 224=some 2:=by kernel_rfl
theorem XM:i7 prog 24=some 4:=by kernel_rfl
theorem XN:i7 prog 26=some 1:=by kernel_rfl
theorem XO:i7 prog 28=some 1:=by kernel_rfl
theorem XP:i7 prog 29=some 1:=by kernel_rfl
theorem aaZ:i7 prog 3=some 1:=by kernel_rfl
theorem XQ:i7 prog 35=some 1:=by kernel_rfl
theorem Fc:i7 prog 4=some 1:=by kernel_rfl
theorem XR:i7 prog 42=some 1:=by kernel_rfl
theorem aa0:i7 prog 5=some 1:=by kernel_rfl
theorem yq:i7 prog 63=some 1:=by kernel_rfl
theorem yr:i7 prog 65=some 2:=by kernel_rfl
theorem XS:i7 prog 75=some 2:=by kernel_rfl
theorem XT:i7 prog 76=some 1:=by kernel_rfl
theorem XU:i7 prog 79=some 1:=by kernel_rfl
theorem XV:i7 prog 84=some 1:=by kernel_rfl
theorem XW:i7 prog 85=some 1:=by kernel_rfl
theorem XX:i7 prog 87=some 3:=by kernel_rfl
theorem K6:dQ prog 104=some [(.slice none 0 0),(.int .i64 0)]:=by kernel_rfl
theorem K7:dQ prog 131=some [.nilFunc]:=by kernel_rfl
theorem K8:dQ prog 133=some [(.int .i64 0),(.int .i64 0)]:=by kernel_rfl
theorem K9:dQ prog 143=some [(.bool false),(.slice none 0 0),(.bool false),(.slice none 0 0)]:=by kernel_rfl
theorem La:dQ prog 165=some [(.int .u32 0)]:=by kernel_rfl
theorem Lb:dQ prog 180=some [(.slice none 0 0),(.slice none 0 0)]:=by kernel_rfl
theorem Lc:dQ prog 182=some [.nilFunc]:=by kernel_rfl
theorem Ld:dQ prog 188=some [(.slice none 0 0),(.slice none 0 0)]:=by kernel_rfl
theorem Le:dQ prog 190=some [.nilFunc]:=by kernel_rfl
theorem Uv:dQ prog 2=some [(.int .i64 0)]:=by kernel_rfl
theorem Lf:dQ prog 222=some [(.int .i64 0),(.slice none 0 0),(.slice none 0 0),(.slice none 0 0)]:=by kernel_rfl
theorem Lg:dQ prog 224=some [(.slice none 0 0),(.slice none 0 0)]:=by kernel_rfl
theorem PL:dQ prog 26=some [(.slice none 0 0)]:=by kernel_rfl
theorem PM:dQ prog 28=some [(.slice none 0 0)]:=by kernel_rfl
theorem PN:dQ prog 29=some [(.int .i64 0)]:=by kernel_rfl
theorem Uw:dQ prog 3=some [(.int .i64 0)]:=by kernel_rfl
theorem PO:dQ prog 35=some [(.slice none 0 0)]:=by kernel_rfl
theorem Ux:dQ prog 4=some [(.bool false)]:=by kernel_rfl
theorem PP:dQ prog 42=some [(.slice none 0 0)]:=by kernel_rfl
theorem rq:dQ prog 65=some [(.bool false),(.slice none 0 0)]:=by kernel_rfl
theorem PQ:dQ prog 75=some [(.int .i64 0),(.slice none 0 0)]:=by kernel_rfl
theorem PR:dQ prog 76=some [(.slice none 0 0)]:=by kernel_rfl
theorem PS:dQ prog 79=some [(.map none)]:=by kernel_rfl
theorem PT:dQ prog 85=some [(.slice none 0 0)]:=by kernel_rfl
theorem PU:dQ prog 87=some [(.int .i64 0),(.slice none 0 0),(.slice none 0 0)]:=by kernel_rfl
theorem cu:prog.follows .mixedOrders=true:=by kernel_rfl
end Go.Proofs.YtalmoejhjceflaaGreat
