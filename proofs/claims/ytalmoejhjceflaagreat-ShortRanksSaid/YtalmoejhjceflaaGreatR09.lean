/-
  Part 10 of a proof (walks and plain facts).
-/
import Derived.Test.YtalmoejhjceflaaGreatR08
set_option linter.all false
set_option maxRecDepth 100000
set_option maxHeartbeats 64000000
namespace Go.Proofs.YtalmoejhjceflaaGreat
open Go.RowKit Go.Proofs.Tryz
variable {b:Array Oper} {s:AS} {n:Nat} {P:Program} {c:Prop} {e:Func} {f:TV} {x:Int}
section
structure VL where
 i:Nat
 d:Option Tmp
 op:Op
 g:Option (Tmp×Bool)
def D7 (c:Array Oper) (o:Oper) (i:Nat):VL:=match o.guard with
 |none=>⟨i,o.dst,o.op,none⟩
 |some (g,b)=>match(c[g]?).bind (·.dst)with
  |some d=>⟨i,o.dst,o.op,some (d,b)⟩
  |none=>⟨i,none,.extract (.func 0) 0,none⟩
def aJ (b:Array Oper):List Oper->Nat->List VL
 |[],_=>[]
 |o::l,i=>D7 b o i::aJ b l (i+1)
section
variable (P:Program) (items:List (df P)) (ow:List Nat)
noncomputable def Zo (i : Nat) (d : Option Tmp) (op : Op) (s : AS) : Option AS := d6 P items ow i ⟨d, op, 0, "", #[], none⟩ s
noncomputable def dp:VL->AS->Option AS
 |⟨i,d,op,none⟩,s=>Zo P items ow i d op s
 |⟨i,d,op,some (k,c)⟩,s=>match s.tmps[k]? with
  |some (.one (.p (.raw (.bool b))))=>if b=c then Zo P items ow i d op s else some (s.put d .undef)
  |some (.tup [])=>some (s.put d .undef)
  |_=>none
noncomputable def aS:List VL->Option AS->(AS->Prop)->Prop
 |_,none,_=>False
 |[],some s,Q=>Q s
 |st::l,some s,Q=>aS l (dp P items ow st s) Q
theorem LR (l:List VL) (Q:AS->Prop):aS P items ow l none Q=False:=by cases l<;>rfl
theorem P3 (s:AS) (Q:AS->Prop):aS P items ow [] (some s) Q=Q s:=rfl
theorem Ab (b:VL) (l:List VL) (s:AS) (Q:AS->Prop):aS P items ow (b::l) (some s) Q=aS P items ow l (dp P items ow b s) Q:=rfl
theorem vH (i : Nat) (o : Oper) (s : AS) : d6 P items ow i ⟨o.dst, o.op, 0, "", #[], none⟩ s = d6 P items ow i o s := rfl
theorem yU {i:Nat} {o:Oper} {b:AS} (c:d6 P items ow i o s=some b):b.tmps.length=s.tmps.length:=by
 grind [d6,Option.map_eq_some_iff,jH]
theorem L6 {o:Oper} {i:Nat} {c:AS} (h:dp P items ow (D7 b o i) s=some c):aU P items ow b i o s=some c/\c.tmps.length=s.tmps.length:=by
 unfold D7 at h;unfold aU;cases l:o.guard with
 |none=>
  grind [dp,Zo,vH,yU]
 |some f=>
  obtain⟨g,e⟩:=f;rw[l]at h;simp only at h⊢;cases j:(b[g]?).bind (·.dst)with
  |none=>
   rw[j]at h;cases h
  |some d=>
   grind [dp,Zo,vH,yU,jH]
theorem aR (b:Array Oper): ∀(l:List Oper) (i:Nat) (s:AS) (Q:AS->Prop),aS P items ow (aJ b l i) (some s) Q-> ∃e,ib P items ow b (l.zipIdx i) s=some e/\Q e
 |[],i,s,Q,h=>⟨s,rfl,h⟩
 |o::l,i,s,Q,h=>by
  simp only[aJ,Ab]at h;simp only[acb,ib];cases c:dp P items ow (D7 b o i) s with
  |none=>grind [LR]
  |some g=>
   rw[c]at h;obtain⟨f,j⟩:=L6 P items ow c;rw[f];exact aR b l (i+1) g Q h
variable {P}
theorem qh (items:List (ao P)) (ow:List Nat) {id:Nat} {Q:Exit->AS->Prop} (h:aS P (items.map ao.a) ow (aJ b b.toList 0) (some s) (Q .normal)):bf P (.region id b false) Q s:=by
 obtain⟨f,c,e⟩:=aR P (items.map ao.a) ow b b.toList 0 s (Q .normal) h;exact Fx _ (ao.ok items) ow c e
variable {items} {ow}
variable {i:Nat} {d:Option Tmp} {s:AS}
theorem L5 (op:Op) (k:Tmp) (c:Bool):dp P items ow ⟨i,d,op,some (k,c)⟩ s=match s.tmps[k]? with
  |some (.one (.p (.raw (.bool b))))=>if b=c then dp P items ow ⟨i,d,op,none⟩ s else some (s.put d .undef)
  |some (.tup [])=>some (s.put d .undef)
  |_=>none:=rfl
theorem tP {op:Op} (h:oQ op=true):dp P items ow ⟨i,d,op,none⟩ s=(jE P s.ev op).map (s.put d):=by
 show d6 P items ow i ⟨d, op, 0, "", #[], none⟩ s = _;grind [d6]
theorem qX {op:Op} (h:oQ op=false) (h':yf op=true):dp P items ow ⟨i,d,op,none⟩ s=(bT P s.ev s.H op).map (s.put d):=by
 show d6 P items ow i ⟨d, op, 0, "", #[], none⟩ s = _;grind [d6]
theorem Pn (x:Operand):dp P items ow ⟨i,d,.move x,none⟩ s=(s.ev x).map (s.put d):=tP rfl
theorem GU (x:Operand):dp P items ow ⟨i,d,.assign x,none⟩ s=(s.ev x).map (s.put d):=tP rfl
theorem Po (c a b:Operand):dp P items ow ⟨i,d,.pick c a b,none⟩ s=(jE P s.ev (.pick c a b)).map (s.put d):=tP rfl
theorem Tm (op:BinOp) (t b:TypeId) (x y:Operand):dp P items ow ⟨i,d,.binOp op t x y b,none⟩ s=(jE P s.ev (.binOp op t x y b)).map (s.put d):=tP rfl
theorem WZ (op:UnOp) (t:TypeId) (x:Operand):dp P items ow ⟨i,d,.unOp op t x,none⟩ s=(jE P s.ev (.unOp op t x)).map (s.put d):=tP rfl
theorem Pl (t b:TypeId) (x:Operand):dp P items ow ⟨i,d,.convert t b x,none⟩ s=(jE P s.ev (.convert t b x)).map (s.put d):=tP rfl
theorem D1 (x:Operand) (k:Nat):dp P items ow ⟨i,d,.extract x k,none⟩ s=(jE P s.ev (.extract x k)).map (s.put d):=tP rfl
theorem Pm (t:TypeId) (x:Operand):dp P items ow ⟨i,d,.load t x,none⟩ s=(bT P s.ev s.H (.load t x)).map (s.put d):=qX rfl rfl
theorem yy (t:TypeId) (x y:Operand):dp P items ow ⟨i,d,.indexAddr t x y,none⟩ s=(bT P s.ev s.H (.indexAddr t x y)).map (s.put d):=qX rfl rfl
theorem yx (t:TypeId) (x:Operand) (f:Nat):dp P items ow ⟨i,d,.fieldAddr t x f,none⟩ s=(bT P s.ev s.H (.fieldAddr t x f)).map (s.put d):=qX rfl rfl
theorem Lz (t:TypeId) (x:Operand) (f:Nat):dp P items ow ⟨i,d,.field t x f,none⟩ s=(bT P s.ev s.H (.field t x f)).map (s.put d):=qX rfl rfl
theorem LA (t:TypeId) (x:Operand) (c b e:Option Operand):dp P items ow ⟨i,d,.slice t x c b e,none⟩ s=(bT P s.ev s.H (.slice t x c b e)).map (s.put d):=qX rfl rfl
theorem Lx (t:TypeId) (b:Array (Nat×Operand)):dp P items ow ⟨i,d,.build t b,none⟩ s=(bT P s.ev s.H (.build t b)).map (s.put d):=qX rfl rfl
theorem Bz (x:Operand):dp P items ow ⟨i,d,.nilCheck x,none⟩ s=(bT P s.ev s.H (.nilCheck x)).map (s.put d):=qX rfl rfl
theorem By (f:Fn) (b c:Array Operand):dp P items ow ⟨i,d,.makeFunc f b c,none⟩ s=(bT P s.ev s.H (.makeFunc f b c)).map (s.put d):=qX rfl rfl
theorem Tp (x y:Operand) (c:Array TypeId):dp P items ow ⟨i,d,.call {callee:= .builtin .min,args:= #[x,y],argTypes:=c},none⟩ s=(Rz (fun a b=>if b<a then b else a) [s.ev x,s.ev y]).map (s.put d):=tP rfl
theorem To (c:Array Operand) (b:Array TypeId):dp P items ow ⟨i,d,.call {callee:= .builtin .len,args:=c,argTypes:=b},none⟩ s=(bT P s.ev s.H (.call {callee:= .builtin .len,args:=c,argTypes:=b})).map (s.put d):=qX rfl rfl
def yw (d:Nat) (s:AS):Option (TV×List OObj)->Option AS
 |some (t,[])=>some (s.put (some d) t)
 |some (t,o::l)=>(match s.H d with|[]=>some (AS.put ⟨s.tmps,ax s.H d (o::l)⟩ (some d) t)|_=>none)
 |none=>none
theorem w8 {op:Op} {d:Nat} (h:oQ op=false) (h':yf op=false) (hD:fP P s.ev s.H op=none):dp P items ow ⟨i,some d,op,none⟩ s=yw d s (cn P items ow i d s.ev s.H op):=by
 show d6 P items ow i ⟨some d, op, 0, "", #[], none⟩ s = _;unfold d6 yw;grind
theorem Tn {d:Nat} (e:TypeId) (x:Operand):dp P items ow ⟨i,some d,.box e x,none⟩ s=yw d s (cn P items ow i d s.ev s.H (.box e x)):=w8 rfl rfl rfl
theorem Lw {d:Nat} (e:TypeId):dp P items ow ⟨i,some d,.alloc e,none⟩ s=yw d s (cn P items ow i d s.ev s.H (.alloc e)):=w8 rfl rfl rfl
theorem yz {d:Nat} (t:TypeId) (x y:Operand):dp P items ow ⟨i,some d,.makeSlice t x y,none⟩ s=yw d s (cn P items ow i d s.ev s.H (.makeSlice t x y)):=w8 rfl rfl rfl
theorem w9 {d:Nat} (t:TypeId) (n:Nat) (b:Array (Nat×Operand)):dp P items ow ⟨i,some d,.buildSlice t n b,none⟩ s=yw d s (cn P items ow i d s.ev s.H (.buildSlice t n b)):=w8 rfl rfl rfl
theorem Pk {d:Nat} (f:FuncId) (c:Array Operand) (b:Array TypeId):dp P items ow ⟨i,some d,.call {callee:= .value (.func f),args:=c,argTypes:=b},none⟩ s=yw d s (cn P items ow i d s.ev s.H (.call {callee:= .value (.func f),args:=c,argTypes:=b})):=w8 rfl rfl rfl
theorem Ly {d:Nat} (k:Tmp) (c:Array Operand) (b:Array TypeId):dp P items ow ⟨i,some d,.call {callee:= .value (.tmp k),args:=c,argTypes:=b},none⟩ s=yw d s (cn P items ow i d s.ev s.H (.call {callee:= .value (.tmp k),args:=c,argTypes:=b})):=w8 rfl rfl rfl
def Zt (d:Option Tmp) (s:AS):Option Fm->Option AS
 |some q=>some (AS.put ⟨s.tmps.map (aP q.k),q.H⟩ d q.t)
 |none=>none
theorem LB (t:TypeId) (x y:Operand):dp P items ow ⟨i,d,.store t x y,none⟩ s=Zt d s (fP P s.ev s.H (.store t x y)):=by
 show d6 P items ow i ⟨d, .store t x y, 0, "", #[], none⟩ s = _;grind [d6,Zt,oQ,yf,cn]
def YA (d:Nat) (s:AS) (q:Option Fm) (r:Option (TV×List OObj)):Option AS:=match q with
 |some q=>Zt (some d) s (some q)
 |none=>yw d s r
theorem GS {d:Nat} (xs:Array Operand) (ts:Array TypeId):dp P items ow ⟨i,some d,.call {callee:= .builtin .append,args:=xs,argTypes:=ts},none⟩ s=
  YA d s (fP P s.ev s.H (.call {callee:= .builtin .append,args:=xs,argTypes:=ts})) (cn P items ow i d s.ev s.H (.call {callee:= .builtin .append,args:=xs,argTypes:=ts})):=by
 cases hq:fP P s.ev s.H (.call {callee:= .builtin .append,args:=xs,argTypes:=ts})with
 |some q=>
  show d6 P items ow i ⟨some d, .call { callee := .builtin .append, args := xs, argTypes := ts }, 0, "", #[], none⟩ s = _;unfold d6;simp only[oQ,WM,yf,Bool.false_eq_true,if_false,hq];rfl
 |none=>exact w8 rfl rfl hq
end
end
section
def Hm:List (Nat×List OObj)->OH
 |[],_=>[]
 |(k,F)::l,a=>if a=k then F else Hm l a
def VE (H:OH):List (Nat×List OObj)->Prop
 |[]=>True
 |(k,F)::l=>H k=F/\VE H l
def D0 (b:List Nat):AV->Bool
 | .sl a _ _ _=>b.contains a
 | .ptr a _ _ _=>b.contains a
 | .fn _ a _=>b.contains a
 |_=>true
def Tl (b:List Nat):TV->Bool
 | .one x=>D0 b x
 | .agg c=>c.all (D0 b)
 | .fn _ c=>c.all (D0 b)
 | .tup e=>e.all fun t=>t.2.all (D0 b)
def XQ (b:List Nat):List TV->List TV->Prop
 |[],[]=>True
 |x::c,y::e=>(y= .one .junk\/(y=x/\Tl b y=true))/\XQ b c e
 |_,_=>False
section
variable {P:Program} {w0 w w':World} {O X:Nat->Prop} {ρ:Rho} {H:OH}
theorem In {H:OH}: ∀{l:List (Nat×List OObj)},VE H l-> ∀a,((l.map (·.1)).contains a=true->Hm l a=H a)/\((l.map (·.1)).contains a=false->Hm l a=[])
 |[],_,a=>⟨fun h=>by simp at h,fun _=>rfl⟩
 |(k,F)::l,h,a=>by
  obtain⟨f,b⟩:=h;obtain⟨c,e⟩:=In b a;grind [Hm]
theorem Cj {b:List Nat}: ∀{l m:List TV},XQ b l m->m.length=l.length/\ ∀(t:Nat) y,m[t]?=some y->y= .one .junk\/(l[t]?=some y/\Tl b y=true)
 |[],[],_=>⟨rfl,fun t y h=>by simp at h⟩
 |x::e,y::f,h=>by
  obtain⟨n,c⟩:=h;obtain⟨g,j⟩:=Cj c;grind
 |[],y::f,h=>h.elim
 |x::e,[],h=>h.elim
theorem T9 {s:OH} {Y t:Nat->Prop} {u:List Nat} (l: ∀a,u.contains a=true->s a=H a) (z: ∀b,t b->Y b) {x:AV} {v:Value} (m:D0 u x=true) (h:x.rel ρ H Y w v):x.rel ρ s t w v:=by
 cases x with
 |p x=>exact bM.weaken (fun b _ A=>z b A) h
 |sl a r B len=>
  obtain⟨o,e,g⟩:=h;exact⟨o,by rw[l a m];exact e,g⟩
 |ptr a r i j=>
  obtain⟨o,b,c,e,g⟩:=h;exact⟨o,b,c,by rw[l a m];exact e,g⟩
 |fn f a E=>
  obtain⟨vs,e,g,y,C⟩:=h;exact⟨vs,e,g,y,fun n q D=>by rw[l a m];grind⟩
 |junk=>trivial
theorem aj {tm:List TV} {l:List (Nat×List OObj)} (hl:VE s.H l) (ht:XQ (l.map (·.1)) s.tmps tm):bG s ⟨tm,Hm l⟩:=by
 rintro w0 O X a w ⟨K,aa,ρ,g,Q⟩;obtain⟨t1,t2⟩:=Cj ht;have hk:=fun a=>In hl a
 have m: ∀(a r:Nat) o,(Hm l a)[r]?=some o->(l.map (·.1)).contains a=true/\(s.H a)[r]?=some o:=fun a r o q=>by
  grind
 have L: ∀b,Xo X ρ (Hm l) b->Xo X ρ s.H b:=fun b M=>by
  rcases M with M|⟨x,y,o,n,G,I⟩
  ·exact .inl M
  exact .inr ⟨x,y,o,n,(m x y o G).2,I⟩
 have E: ∀x v,D0 (l.map (·.1)) x=true->AV.rel ρ s.H (Xo X ρ s.H) w x v->AV.rel ρ (Hm l) (Xo X ρ (Hm l)) w x v:=fun x v q h=>T9 (fun a ha=>(hk a).1 ha) L q h
 have D: ∀z v,z.all (D0 (l.map (·.1)))=true->bH ρ s.H (Xo X ρ s.H) w z v->bH ρ (Hm l) (Xo X ρ (Hm l)) w z v:=fun z v q h=>by
  simp only[aat]at q;obtain⟨vs,G,I,g3⟩:=h;exact⟨vs,G,I,fun j x F=>by grind⟩
 refine⟨K,by grind,ρ,⟨g.keep,fun a r o q=>?_,fun a r S W o U b c Z q A=>g.inj a r S W o U b c Z (m a r o q).2 (m S W U A).2,fun a r o b c q=>g.old a r o b c (m a r o q).2,g.bar,fun a r o q=>g.self a r o (m a r o q).2⟩,fun t x F=>?_⟩
 ·obtain⟨N,A⟩:=m a r o q;obtain⟨q1,q2,V⟩:=g.objs a r o A;refine⟨q1,q2,?_⟩;cases hr:ρ a r with
  |none=>grind
  |some Y=>
   obtain⟨b,c⟩:=Y;rw[hr]at V;obtain⟨cells,p1,p2,p3,p4,p5⟩:=V;refine⟨cells,p1,p2,p3,p4,fun i e j x T F=>?_⟩;obtain⟨u,u1,u2,u3⟩:=p5 i e j x T F;have C:=g.self a r o A e (aai T) x (aai F);refine⟨u,u1,u2,E x u ?_ u3⟩;cases x with
   |sl y _ _ _=>have C:y=a:=C;subst C;exact N
   |ptr y _ _ _=>have C:y=a:=C;subst C;exact N
   |fn _ y _=>have C:y=a:=C.1;subst C;exact N
   |p y=>rfl
   |junk=>rfl
 rcases t2 t x F with rfl|⟨R,B⟩
 ·obtain⟨v,hv⟩: ∃v,a.tmps[t]?=some v:=by
   have:t<tm.length:=(aao.1 F).1;simp_all
  exact⟨v,hv,trivial⟩
 obtain⟨v,v1,J⟩:=Q t x R;refine⟨v,v1,?_⟩;cases x with
 |one x=>exact E x v B J
 |agg z=>exact D z v B J
 |fn f z=>obtain⟨u,K,h2⟩:=J;exact⟨u,D z u B K,h2⟩
 |tup ts=>
  simp only[Tl,aat]at B;obtain⟨vs,G,I,g3⟩:=J;refine⟨vs,G,I,fun j b z hj=>?_⟩;grind
theorem dZ {k d:Nat} (E:TypeId) (y:Nat) (F:0<y) (K:s.H d=[]) (M:s.tmps[k]?=some (.raw (.slice none 0 0))):bG s ⟨s.tmps.set k (.one (.sl d 0 0 0)),ax s.H d [⟨E,y,[]⟩]⟩:=by
 rintro w0 O X a w ⟨J,N,ρ,f,n⟩;have n:aV X ρ s a w:=n;obtain⟨v,T,U⟩:=n k _ M;have Q:=(aX U).1;subst Q;have A: ∀(r b c:Nat),(fun _=>none:Nat->Option (Nat×Nat)) r=some (b,c)->w.heap.size<=b:=fun r b c h=>by cases h
 have m: ∀x u,AV.rel ρ s.H (Xo X ρ s.H) w x u->AV.rel (newρ ρ d fun _=>none) (ax s.H d [⟨E,y,[]⟩]) (Xo X (newρ ρ d fun _=>none) (ax s.H d [⟨E,y,[]⟩])) w x u:=fun x u h=>jb f (Ext.refl w) K A h
 refine⟨J,by grind,newρ ρ d fun _=>none,⟨f.keep,fun l r o g=>?_,fun l r q S o R b c I g B C D=>?_,fun l r o b c g C=>?_,f.bar,fun l r o g=>?_⟩,fun t x p=>?_⟩
 ·by_cases j:l=d
  ·subst j;simp only[aM]at g;cases r with
   |succ r=>simp at g
   |zero=>simp at g;subst g;exact⟨by simp,F,by rw[newρ_eq]⟩
  simp only[aG j]at g;exact dP (f.objs l r o g) (newρ_ne j r) (fun b c V=>rfl) m
 ·by_cases j:l=d
  ·grind [newρ_eq]
  by_cases z:q=d
  ·grind [newρ_eq]
  rw[newρ_ne j]at C;rw[newρ_ne z]at D;simp only[aG j]at g;simp only[aG z]at B;exact f.inj l r q S o R b c I g B C D
 ·by_cases j:l=d
  ·grind [newρ_eq]
  rw[newρ_ne j]at C;simp only[aG j]at g;exact f.old l r o b c g C
 ·by_cases j:l=d
  ·subst j;simp only[aM]at g;cases r with
   |succ r=>simp at g
   |zero=>simp at g;subst g;exact fun e L=>by simp at L
  simp only[aG j]at g;exact f.self l r o g
 by_cases G:k=t
 ·subst G;simp only[aa3,if_true]at p;split at p
  ·injection p with p
   subst p;exact⟨_,T,⟨E,y,[]⟩,by grind [aM],by simp,.inl ⟨by rw[newρ_eq],rfl,rfl,rfl⟩⟩
  cases p
 grind [TV.rel_map]
theorem kN {Y Z:Nat->Prop} {a f len:Nat} {o:OObj} {v:Value} {F:AV->PV} (E:objRel ρ H Y w a n o) (Q:(H a)[n]?=some o) (g: ∀e∈o.elems,∀x∈e,∀u,x.rel ρ H Y w u->bM Z w (F x) u) (D: ∀b c,ρ a n=some (b,c)-> ¬Z b) (h:AV.rel ρ H Y w (.sl a n f len) v):bM Z w (.sl (((o.elems.take (f+len)).drop f).map (List.map F))) v:=by
 obtain⟨o',A,V,M⟩:=h;rw[Q]at A;injection A with A
 subst A;obtain⟨q1,q2,K⟩:=E;have J:(((o.elems.take (f+len)).drop f).map (List.map F)).length=len:=by simp;omega
 rcases M with⟨C,B,N,W⟩|⟨b,c,cap,C,B,I,_⟩
 ·rw[abY.1 (J.trans N),B];exact bM.nil _ _
 by_cases t:len=0
 ·rw[abY.1 (J.trans t),B,t];exact bM.nil _ _
 rw[C]at K;obtain⟨cells,R,p2,p3,p4,S⟩:=K;have y: ∀(i:Nat) e,(((o.elems.take (f+len)).drop f).map (List.map F))[i]?=some e-> ∃p,o.elems[f+i]?=some p/\e=p.map F:=fun i e l=>by
  grind
 have q: ∀(i:Nat) e (j:Nat) x,(((o.elems.take (f+len)).drop f).map (List.map F))[i]?=some e->e[j]?=some x-> ∃u:Value,cells[(f+i)*o.es+j]?=some u/\bM Z w x u:=fun i e j x l m=>by
  obtain⟨p,s,rfl⟩:=y i e l;rw[aam]at m;obtain⟨L,z,rfl⟩:=aak.1 m;obtain⟨u,G,T,U⟩:=S _ p j L s z;exact⟨u,G,g p (aai s) L (aai z) u U⟩
 rw[B];have:=bM.sl (X:=Z) (w:=w) b (f*o.es) o.es cap (((o.elems.take (f+len)).drop f).map (List.map F)) (fun i j=>(cells[(f+i)*o.es+j]?).getD undef) (D b c C) (aaD.1 R).1
  (fun e l=>by
   grind [List.mem_of_mem_drop]) (by omega) (by omega)
  (fun i e j x l m=>by
   obtain⟨u,G,_⟩:=q i e j x l m;grind [cell_of_row])
  (fun i e j x l m=>by
   obtain⟨u,G,T⟩:=q i e j x l m;grind)
 grind
def kC (H:OH) (a:Nat):AV->PV
 | .p x=>x
 | .sl _ r b len=>match(H a)[r]? with
  |some o=> .sl (((o.elems.take (b+len)).drop b).map (List.map uq))
  |none=> .raw undef
 |_=> .raw undef
def dF (H:OH) (a:Nat):AV->AV
 | .sl b r c len=>if b=a then(match(H a)[r]? with
  |some o=> .p (.sl (((o.elems.take (c+len)).drop c).map (List.map (kC H a))))
  |none=> .junk)else .sl b r c len
 | .ptr b r i j=>if b=a then .junk else .ptr b r i j
 | .fn f b e=>if b=a then .junk else .fn f b e
 |x=>x
theorem DQ (H:OH) (a:Nat):oR (dF H a):=fun f b e=>by
 by_cases h:b=a
 ·exact .inl (if_pos h)
 exact .inr ⟨b,e,if_neg h,rfl,fun n q c=>⟨q,c,if_neg h⟩⟩
def ew (H:OH) (a:Nat):TV->TV
 | .one x=> .one (dF H a x)
 | .agg b=> .agg (b.map (dF H a))
 | .fn f b=> .fn f (b.map (dF H a))
 | .tup c=> .tup (c.map fun t=>(t.1,t.2.map (dF H a)))
def dT (o:OObj):Prop:= ∀e∈o.elems,∀x∈e,isPure x=true
def qB (H:OH) (a:Nat):Prop:= ∀(r:Nat) o,(H a)[r]?=some o-> ∀e∈o.elems,∀x∈e,isPure x=true\/ ∃f b len c,x= .sl a f b len/\(H a)[f]?=some c/\dT c
theorem bD {s:AS} (a:Nat) (aa:qB s.H a):bG s ⟨s.tmps.map (ew s.H a),ax s.H a []⟩:=by
 rintro w0 O X W w ⟨Z,ad,ρ,g,L⟩;have L:aV X ρ s W w:=L;have q: ∀(x y:Nat) o,(ax s.H a [] x)[y]?=some o->x≠a/\(s.H x)[y]?=some o:=fun x y o B=>by
  grind [aM,aG]
 have Q: ∀b,Xo X ρ (ax s.H a []) b->Xo X ρ s.H b:=fun b A=>by
  rcases A with A|⟨x,y,o,n,m,D⟩
  ·exact .inl A
  exact .inr ⟨x,y,o,n,(q x y o m).2,D⟩
 have R: ∀(r:Nat) o,(s.H a)[r]?=some o-> ∀b c,ρ a r=some (b,c)-> ¬Xo X ρ (ax s.H a []) b:=fun r o B b c T hX=>by
  rcases hX with hX|⟨x,y,J,n,m,D⟩
  ·exact(g.old a r o b c B T).2 hX
  obtain⟨I,Y⟩:=q x y J m;exact I (g.inj x y a r J o b n c Y B D T).1
 have C: ∀x u,isPure x=true->AV.rel ρ s.H (Xo X ρ s.H) w x u->bM (Xo X ρ (ax s.H a [])) w (uq x) u:=fun x u S h=>by
  cases x<;>first|exact bM.weaken (fun b _ A=>Q b A) h|cases S
 have K: ∀(r:Nat) o,(s.H a)[r]?=some o-> ∀e∈o.elems,∀x∈e,∀u,AV.rel ρ s.H (Xo X ρ s.H) w x u->bM (Xo X ρ (ax s.H a [])) w (kC s.H a x) u:=fun r o B e M x I u U=>by
  rcases aa r o B e M x I with S|⟨r',ac,len,J,rfl,l,ab⟩
  ·have:=C x u S U;cases x<;>first|exact this|cases S
  simp only[kC,l];exact kN (g.objs a r' J l) l (fun e M y hy u U=>C y u (ab e M y hy) U) (R r' J l) U
 have G: ∀x v,AV.rel ρ s.H (Xo X ρ s.H) w x v->AV.rel ρ (ax s.H a []) (Xo X ρ (ax s.H a [])) w (dF s.H a x) v:=gp (DQ s.H a) fun x v hn h=>by
  cases x with
  |fn=>cases hn
  |p x=>exact bM.weaken (fun b _ A=>Q b A) h
  |sl b r ac len=>
   simp only[dF];by_cases A:b=a
   ·subst A;rw[if_pos rfl];have h':=h;obtain⟨o,m,D,g3⟩:=h;rw[m];exact kN (g.objs b r o m) m (K r o m) (R r o m) h'
   rw[if_neg A];obtain⟨o,m,D⟩:=h;exact⟨o,by grind [aG],D⟩
  |ptr b r i j=>
   simp only[dF];by_cases A:b=a
   ·subst A;rw[if_pos rfl];trivial
   rw[if_neg A];obtain⟨o,b',c,m,D⟩:=h;exact⟨o,b',c,by grind [aG],D⟩
  |junk=>trivial
 have F: ∀E v,bH ρ s.H (Xo X ρ s.H) w E v->bH ρ (ax s.H a []) (Xo X ρ (ax s.H a [])) w (E.map (dF s.H a)) v:=fun E v h=>by
  obtain⟨vs,m,D,g3⟩:=h;refine⟨vs,m,by grind,fun j x I=>?_⟩;grind
 refine⟨Z,by grind,ρ,⟨g.keep,fun x y o B=>?_,fun x y x' y' o J b c c' B l=>g.inj x y x' y' o J b c c' (q x y o B).2 (q x' y' J l).2,fun x y o b c B=>g.old x y o b c (q x y o B).2,g.bar,fun x y o B=>g.self x y o (q x y o B).2⟩,fun t x I=>?_⟩
 ·obtain⟨I,l⟩:=q x y o B;obtain⟨q1,q2,q3⟩:=g.objs x y o l;refine⟨q1,q2,?_⟩;cases T:ρ x y with
  |none=>grind
  |some bc=>
   obtain⟨b,c⟩:=bc;rw[T]at q3;obtain⟨cells,p1,p2,p3,p4,p5⟩:=q3;refine⟨cells,p1,p2,p3,p4,fun i e j z M hz=>?_⟩;obtain⟨u,u1,u2,u3⟩:=p5 i e j z M hz;have N:=g.self x y o l e (aai M) z (aai hz);have:=G z u u3;refine⟨u,u1,u2,?_⟩;cases z with
   |sl z _ _ _=>have N:z=x:=N;grind [dF]
   |ptr z _ _ _=>have N:z=x:=N;grind [dF]
   |fn _ z _=>have N:z=x:=N.1;grind [dF]
   |p z=>exact this
   |junk=>trivial
 simp only[aam]at I;obtain⟨y,hy,rfl⟩:=aak.1 I;obtain⟨v,v1,V⟩:=L t y hy;refine⟨v,v1,?_⟩;cases y with
 |one x=>exact G x v V
 |agg E=>exact F E v V
 |fn f E=>obtain⟨u,Z,h2⟩:=V;exact⟨u,F E u Z,h2⟩
 |tup ts=>
  obtain⟨vs,m,D,g3⟩:=V;refine⟨vs,m,by grind,fun j b E hj=>?_⟩;grind
end
end
section
section
variable {P:Program} {s:AS} {Q:Exit->AS->Prop} {x y z:Code}
theorem aQ (c:List (ao P)) (e:List Nat) {id:Nat} (h: ∀K:AS->Prop,(∀f,bf P y Q f->K f)->aS P (c.map ao.a) e (aJ b b.toList 0) (some s) K):bf P (.seq (.region id b false) y) Q s:=
 ai (qh c e (h _ fun _ h=>h))
theorem m9 (c:List (ao P)) (e:List Nat) {id:Nat} (h: ∀K:AS->Prop,(∀f,Q .normal f->K f)->aS P (c.map ao.a) e (aJ b b.toList 0) (some s) K):bf P (.region id b false) Q s:=
 qh c e (h _ fun _ h=>h)
theorem an {y:Code} {id:Nat} (h: ∀K:AS->Prop,(∀c,bf P y Q c->K c)->aS P [] [] (aJ b b.toList 0) (some s) K):bf P (.seq (.region id b false) y) Q s:=aQ [] [] h
theorem cz {id:Nat} (h: ∀K:AS->Prop,(∀c,Q .normal c->K c)->aS P [] [] (aJ b b.toList 0) (some s) K):bf P (.region id b false) Q s:=m9 [] [] h
theorem RY {G:Type} (St:G->AS) (b:G->Nat) (e:G) {id:Nat} (f:bG s (St e))
  (round: ∀g,bf P x (jh (fun h=> ∃c,b c<b g/\bG h (St c)) (mi id (jh (bf P y Q) Q))) (St g)):bf P (.seq (.block id (.loop x)) y) Q s:=
 ai (am (CK St b e f round))
theorem aB {G:Type} (St:G->AS) (b:G->Nat) (e:G) {id:Nat} (f:bG s (St e))
  (round: ∀g,bf P x (jh (fun h=> ∃c,b c<b g/\bG h (St c)) (mi id Q)) (St g)):bf P (.block id (.loop x)) Q s:=
 am (CK St b e f round)
theorem aK {n:Int} (b: -9223372036854775808<=n) (c:n<=9223372036854775807):IntKind.i64.wrap n=n:=ac1 _ (by omega)
theorem ce {n:Int} (b:0<=n) (c:n<18446744073709551616):IntKind.u64.wrap n=n:=by rw[aa1];omega
theorem J8 {n:Int} (b:0<=n) (c:n<4294967296):IntKind.u32.wrap n=n:=by rw[abQ];omega
theorem Kz {f:FuncId} {args:List TV} {res:CallRes} (k:Nat) (j:List (List PV)) (r:args[k]?=some (.one (.p (.sl j)))) (h:j.length<=9223372036854775807->CallC P f args res) (n:callable P f=true):CallC P f args res:=by
 refine⟨n,fun X w vs m l e=>?_⟩;obtain⟨v,_,g⟩:=e k _ r;have g:bM X w (.sl j) v:=g;refine(h ?_).2 X w vs m l e;cases g with
 |nil a c=>simp
 |sl b u A cap j f m B q o t n g=>exact t
end
end
section
def ls {b:Type} (f:b->List PV) (l:List b):List (List PV):=l.map f
def lc {b:Type} (f:b->List PV) (l:List b):List (List AV):=l.map fun x=>(f x).map AV.p
section
variable {α:Type} {f:α->List PV}
theorem co (l:List α):(ls f l).length=l.length:=by simp[ls]
theorem my (l:List α):(lc f l).length=l.length:=by simp[lc]
theorem dO (l:List α) (i:Nat):(ls f l)[i]?=(l[i]?).map f:=by simp[ls]
theorem wL (l:List α) (i:Nat):(lc f l)[i]?=(l[i]?).map fun x=>(f x).map AV.p:=by simp[lc]
theorem S7 (l:List α) (i:Nat):(ls f l).take i=ls f (l.take i):=by simp[ls]
theorem S6 (l:List α) (i:Nat):(ls f l).drop i=ls f (l.drop i):=by simp[ls]
theorem eY (l:List α) (i:Nat):(lc f l).take i=lc f (l.take i):=by simp[lc]
theorem Be (l:List α) (i:Nat):(lc f l).drop i=lc f (l.drop i):=by simp[lc]
theorem WS (l:List α):(ls f l).map (List.map AV.p)=lc f l:=by simp[ls,lc]
theorem S9 (l:List PV):(l.map AV.p).map uq=l:=by rw[abV];exact(aaN (fun _ _=>rfl)).trans (ab7 l)
theorem oA (l:List α):(lc f l).map (List.map uq)=ls f l:=by
 grind [ls,lc,List.map_congr_left,S9]
theorem eG (H:OH) (a:Nat) (l:List α):(lc f l).map (List.map (kC H a))=ls f l:=by
 simp only[ls,lc,abV];refine aaN fun x _=>?_
 show((f x).map AV.p).map (kC H a)=f x;rw[abV];exact(aaN (fun _ _=>rfl)).trans (ab7 _)
theorem S2 (l:List α):((lc f l).all fun e=>e.all isPure)=true:=by
 simp[lc,isPure]
theorem GD (l m:List α):lc f l++lc f m=lc f (l++m):=by simp[lc]
theorem Ja (x:α) (l:List α):ls f (x::l)=f x::ls f l:=rfl
theorem Bf:lc f []=[]:=rfl
theorem WR:ls f []=[]:=rfl
theorem wM (l:List α) (i:Nat) (x:α):(lc f l).set i ((f x).map AV.p)=lc f (l.set i x):=by simp_all[lc]
theorem sO (e: ∀x,(f x).length=n) (l:List α):(∀c∈ls f l,c.length=n)=True:=by
 simp only[eq_iff_iff,iff_true];intro c b;obtain⟨x,_,rfl⟩:=aau.1 b;exact e x
theorem OJ (e: ∀x,(f x).length=n) (l:List α):(∀c∈lc f l,c.length=n)=True:=by
 simp only[eq_iff_iff,iff_true];intro c b;obtain⟨x,_,rfl⟩:=aau.1 b;grind
theorem uH (k:Nat->Nat->Bool) (l:List α):(lc f l).map (List.map (aO k))=lc f l:=by
 grind [lc,List.map_congr_left,aO]
theorem iC (d:Nat) (l:List α):(lc f l).map (List.map (cb d))=lc f l:=by
 grind [lc,List.map_congr_left,cb]
theorem Ll (h:0<=x):zD x=some x.toNat:=if_pos h
theorem bo (t:TypeId) (n:Nat) (l:List α):dT ⟨t,n,lc f l⟩:=fun e b x c=>by
 obtain⟨y,_,rfl⟩:=aau.1 b;obtain⟨z,_,rfl⟩:=aau.1 c;rfl
theorem bO {H:OH} {a:Nat} {t:TypeId} {l:List α} (h:H a=[⟨t,n,lc f l⟩]):qB H a:=fun r o b e c x g=>by
 rw[h]at b;cases r with
 |succ r=>simp at b
 |zero=>simp at b;subst b;exact .inl (bo t n l e c x g)
end
theorem V0 {b:Type} (p:b->Prop):(∀e∈([]:List b),p e)=True:=by simp
theorem R9 {b:Type} (p:b->Prop) (x:b) (l:List b):(∀e∈x::l,p e)=(p x/\ ∀e∈l,p e):=by simp
theorem ifT [Decidable c] (h:c) {e:Type} (a b:e):(if c then a else b)=a:=if_pos h
theorem ifF [Decidable c] (h: ¬c) {e:Type} (a b:e):(if c then a else b)=b:=if_neg h
theorem ZN [Decidable c] (h:c):decide c=true:=decide_eq_true h
theorem ZM [Decidable c] (h: ¬c):decide c=false:=decide_eq_false h
def fU (n:Nat):List PV:=[.raw (.int .u32 (n:Int))]
theorem A2 (n:Nat):(fU n).length=1:=rfl
def fI (z:Int):List PV:=[.raw (.int .i64 z)]
theorem N7 (n:Int):(fI n).length=1:=rfl
def fN (z:Nat):List PV:=[.raw (.int .i64 (z:Int))]
theorem wW {d:Nat} (h:noRefTV f=true):selfTV d f/\renTV 0 f=f:=by
 have e: ∀x,fm x=true->bs d x/\cb 0 x=x:=fun x c=>by cases x<;>first|exact⟨trivial,rfl⟩|cases c
 cases f with
 |one x=>exact⟨(e x h).1,by simp only[renTV,(e x h).2]⟩
 |agg j=>
  simp only[noRefTV,aat]at h;exact⟨fun x c=>(e x (h x c)).1,by simp only[renTV];congr 1;exact(aaN fun x c=>(e x (h x c)).2).trans (ab7 _)⟩
 |fn b j=>
  simp only[noRefTV,aat]at h;exact⟨fun x c=>(e x (h x c)).1,by simp only[renTV];congr 1;exact(aaN fun x c=>(e x (h x c)).2).trans (ab7 _)⟩
 |tup l=>
  simp only[noRefTV,aat]at h;refine⟨fun f g x c=>(e x (h f g x c)).1,?_⟩;simp only[renTV]
  congr 1
  refine(aaN fun f g=>?_).trans (ab7 _);show(f.1,f.2.map (cb 0))=f;rw[(aaN fun x c=>(e x (h f g x c)).2).trans (ab7 f.2)]
theorem i4 (l:List Nat) (a:Nat):lc fU l++[[AV.p (.raw (.int .u32 (a:Int)))]]=lc fU (l++[a]):=by simp[lc,fU]
theorem wK (l:List Int) (a:Int):lc fI l++[[AV.p (.raw (.int .i64 a))]]=lc fI (l++[a]):=by simp[lc,fI]
theorem lO (l:List Nat) (a:Nat):lc fN l++[[AV.p (.raw (.int .i64 (a:Int)))]]=lc fN (l++[a]):=by simp[lc,fN]
theorem lW {d:Nat} (b:s.H d=[]) (h:pS P s e.results.toList=some f) (c:noRefTV f=true):mZ P e ⟨[],f⟩ s:=
 ⟨f,d,h,LV (wW c).1 b,by rw[b];rfl,(wW (d:=0) c).2.symm⟩
theorem jt (d:Nat) (b:qB s.H d) (h:pS P ⟨s.tmps.map (ew s.H d),ax s.H d []⟩ e.results.toList=some f) (g:noRefTV f=true): ∃c,bG s c/\mZ P e ⟨[],f⟩ c:=
 ⟨_,bD d b,lW (d:=d) (by simp[ax]) h g⟩
theorem bW (c:s.H 1000=[]) (h:pS P s e.results.toList=some f) (g:noRefTV f=true): ∃b,bG s b/\mZ P e ⟨[],f⟩ b:=
 ⟨_,bG.refl _,lW c h g⟩
end
theorem L9:gd prog 131=some false:=by kernel_rfl
theorem Ma:gd prog 133=some true:=by kernel_rfl
theorem Mb:gd prog 143=some true:=by kernel_rfl
theorem Mc:gd prog 165=some false:=by kernel_rfl
theorem Md:gd prog 180=some true:=by kernel_rfl
theorem Me:gd prog 182=some false:=by kernel_rfl
theorem Mf:gd prog 188=some true:=by kernel_rfl
theorem Mg:gd prog 190=some false:=by kernel_rfl
theorem JX:gd prog 2=some false:=by kernel_rfl
theorem QF:gd prog 22=some false:=by kernel_rfl
theorem Mh:gd prog 224=some true:=by kernel_rfl
theorem QG:gd prog 24=some true:=by kernel_rfl
theorem QH:gd prog 26=some false:=by kernel_rfl
theorem EM:gd prog 28=some false:=by kernel_rfl
theorem QI:gd prog 29=some false:=by kernel_rfl
theorem JY:gd prog 3=some false:=by kernel_rfl
theorem QJ:gd prog 35=some false:=by kernel_rfl
theorem uZ:gd prog 4=some false:=by kernel_rfl
theorem EN:gd prog 42=some false:=by kernel_rfl
theorem Ul:gd prog 5=some false:=by kernel_rfl
theorem rR:gd prog 63=some false:=by kernel_rfl
theorem n7:gd prog 65=some true:=by kernel_rfl
theorem QK:gd prog 75=some true:=by kernel_rfl
theorem QL:gd prog 76=some false:=by kernel_rfl
theorem QM:gd prog 79=some false:=by kernel_rfl
theorem QN:gd prog 84=some false:=by kernel_rfl
theorem EO:gd prog 85=some false:=by kernel_rfl
theorem QO:gd prog 87=some true:=by kernel_rfl
theorem rS:vQ prog 3=false:=by kernel_rfl
theorem rT:vQ prog 4=true:=by kernel_rfl
theorem QP:IA prog 133=some 16:=by kernel_rfl
theorem QQ:IA prog 165=some 4:=by kernel_rfl
theorem XJ:IA prog 2=some 8:=by kernel_rfl
theorem QR:IA prog 3=some 8:=by kernel_rfl
theorem Um:IA prog 35=some 24:=by kernel_rfl
theorem Un:IA prog 42=some 24:=by kernel_rfl
theorem JZ:IA prog 65=some 32:=by kernel_rfl
theorem Uo:IA prog 75=some 32:=by kernel_rfl
theorem J0:IA prog 85=some 24:=by kernel_rfl
theorem ud:cU prog 108 0=some (0,42):=by kernel_rfl
theorem ue:cU prog 108 1=some (1,28):=by kernel_rfl
theorem EP:cU prog 133 0=some (0,2):=by kernel_rfl
theorem EQ:cU prog 133 1=some (1,2):=by kernel_rfl
theorem ER:cU prog 143 0=some (0,65):=by kernel_rfl
theorem ES:cU prog 143 1=some (2,65):=by kernel_rfl
theorem ET:cU prog 180 0=some (0,35):=by kernel_rfl
theorem EU:cU prog 180 1=some (1,26):=by kernel_rfl
theorem EV:cU prog 188 0=some (0,35):=by kernel_rfl
theorem EW:cU prog 188 1=some (1,26):=by kernel_rfl
theorem EX:cU prog 222 0=some (0,2):=by kernel_rfl
theorem EY:cU prog 222 1=some (1,35):=by kernel_rfl
theorem EZ:cU prog 222 2=some (2,26):=by kernel_rfl
theorem E3:cU prog 222 3=some (3,35):=by kernel_rfl
theorem E4:cU prog 224 0=some (0,84):=by kernel_rfl
theorem E5:cU prog 224 1=some (1,85):=by kernel_rfl
theorem Ho:cU prog 24 0=some (0,5):=by kernel_rfl
theorem Hp:cU prog 24 1=some (1,5):=by kernel_rfl
theorem Hq:cU prog 24 2=some (2,22):=by kernel_rfl
theorem mM:cU prog 65 0=some (0,4):=by kernel_rfl
theorem mN:cU prog 65 1=some (1,63):=by kernel_rfl
theorem Hr:cU prog 75 0=some (0,2):=by kernel_rfl
theorem Hs:cU prog 75 1=some (1,35):=by kernel_rfl
theorem Ht:cU prog 87 0=some (0,3):=by kernel_rfl
theorem Hu:cU prog 87 1=some (1,84):=by kernel_rfl
theorem Hv:cU prog 87 2=some (2,85):=by kernel_rfl
theorem Mi:A9 prog 116=some .u64:=by kernel_rfl
theorem Mj:A9 prog 165=some .u32:=by kernel_rfl
theorem Up:A9 prog 2=some .i64:=by kernel_rfl
theorem Uq:A9 prog 3=some .i64:=by kernel_rfl
theorem Ur:A9 prog 5=some .u8:=by kernel_rfl
theorem Mk:gA prog 104=some [(0,1),(1,1)]:=by kernel_rfl
theorem Ml:gA prog 133=some [(0,1),(1,1)]:=by kernel_rfl
theorem Mm:gA prog 143=some [(0,2),(2,2)]:=by kernel_rfl
theorem Mn:gA prog 180=some [(0,1),(1,1)]:=by kernel_rfl
theorem Mo:gA prog 188=some [(0,1),(1,1)]:=by kernel_rfl
theorem Mp:gA prog 222=some [(0,1),(1,1),(2,1),(3,1)]:=by kernel_rfl
theorem Mq:gA prog 224=some [(0,1),(1,1)]:=by kernel_rfl
theorem rU:gA prog 65=some [(0,1),(1,1)]:=by kernel_rfl
theorem QS:gA prog 75=some [(0,1),(1,1)]:=by kernel_rfl
theorem QT:gA prog 87=some [(0,1),(1,1),(2,1)]:=by kernel_rfl
theorem Hw:dn prog 26=some 35:=by kernel_rfl
theorem x8:dn prog 28=some 3:=by kernel_rfl
theorem x9:dn prog 35=some 2:=by kernel_rfl
theorem ya:dn prog 42=some 85:=by kernel_rfl
theorem Hx:dn prog 49=some 22:=by kernel_rfl
theorem mO:dn prog 63=some 165:=by kernel_rfl
theorem Hy:dn prog 72=some 75:=by kernel_rfl
theorem Hz:dn prog 76=some 133:=by kernel_rfl
theorem HJ:dn prog 84=some 42:=by kernel_rfl
theorem yb:dn prog 85=some 65:=by kernel_rfl
theorem QU:gL prog 131=some 1:=by kernel_rfl
theorem QV:gL prog 133=some 2:=by kernel_rfl
theorem QW:gL prog 143=some 4:=by kernel_rfl
theorem QX:gL prog 165=some 1:=by kernel_rfl
theorem QY:gL prog 180=some 2:=by kernel_rfl
theorem QZ:gL prog 182=some 1:=by kernel_rfl
theorem Q2:gL prog 188=some 2:=by kernel_rfl
theorem Q3:gL prog 190=some 1:=by kernel_rfl
theorem Q4:gL prog 2=some 1:=by kernel_rfl
theorem Us:gL prog 22=some 1:=by kernel_rfl
theorem Q5:gL prog 224=some 2:=by kernel_rfl
theorem Ut:gL prog 24=some 4:=by kernel_rfl
theorem Uu:gL prog 26=some 1:=by kernel_rfl
theorem J1:gL prog 28=some 1:=by kernel_rfl
theorem Uv:gL prog 29=some 1:=by kernel_rfl
theorem Q6:gL prog 3=some 1:=by kernel_rfl
theorem Uw:gL prog 35=some 1:=by kernel_rfl
theorem Cg:gL prog 4=some 1:=by kernel_rfl
theorem J2:gL prog 42=some 1:=by kernel_rfl
theorem XK:gL prog 5=some 1:=by kernel_rfl
theorem vd:gL prog 63=some 1:=by kernel_rfl
theorem rV:gL prog 65=some 2:=by kernel_rfl
theorem Ux:gL prog 75=some 2:=by kernel_rfl
theorem Uy:gL prog 76=some 1:=by kernel_rfl
theorem Uz:gL prog 79=some 1:=by kernel_rfl
theorem UA:gL prog 84=some 1:=by kernel_rfl
theorem J3:gL prog 85=some 1:=by kernel_rfl
theorem UB:gL prog 87=some 3:=by kernel_rfl
theorem HU:dw prog 104=some [(.slice none 0 0),(.int .i64 0)]:=by kernel_rfl
theorem HW:dw prog 108=some [(.slice none 0 0),(.slice none 0 0)]:=by kernel_rfl
theorem H4:dw prog 131=some [.nilFunc]:=by kernel_rfl
theorem H5:dw prog 133=some [(.int .i64 0),(.int .i64 0)]:=by kernel_rfl
theorem H6:dw prog 143=some [(.bool false),(.slice none 0 0),(.bool false),(.slice none 0 0)]:=by kernel_rfl
theorem H7:dw prog 165=some [(.int .u32 0)]:=by kernel_rfl
theorem H8:dw prog 180=some [(.slice none 0 0),(.slice none 0 0)]:=by kernel_rfl
theorem H9:dw prog 182=some [.nilFunc]:=by kernel_rfl
theorem Ia:dw prog 188=some [(.slice none 0 0),(.slice none 0 0)]:=by kernel_rfl
theorem Ib:dw prog 190=some [.nilFunc]:=by kernel_rfl
theorem Q7:dw prog 2=some [(.int .i64 0)]:=by kernel_rfl
theorem Ic:dw prog 222=some [(.int .i64 0),(.slice none 0 0),(.slice none 0 0),(.slice none 0 0)]:=by kernel_rfl
theorem Id:dw prog 224=some [(.slice none 0 0),(.slice none 0 0)]:=by kernel_rfl
theorem Mr:dw prog 26=some [(.slice none 0 0)]:=by kernel_rfl
theorem Ms:dw prog 28=some [(.slice none 0 0)]:=by kernel_rfl
theorem Mt:dw prog 29=some [(.int .i64 0)]:=by kernel_rfl
theorem E6:dw prog 3=some [(.int .i64 0)]:=by kernel_rfl
theorem Mu:dw prog 35=some [(.slice none 0 0)]:=by kernel_rfl
theorem Q8:dw prog 4=some [(.bool false)]:=by kernel_rfl
theorem Mv:dw prog 42=some [(.slice none 0 0)]:=by kernel_rfl
theorem lZ:dw prog 65=some [(.bool false),(.slice none 0 0)]:=by kernel_rfl
theorem Mw:dw prog 75=some [(.int .i64 0),(.slice none 0 0)]:=by kernel_rfl
theorem Mx:dw prog 76=some [(.slice none 0 0)]:=by kernel_rfl
theorem My:dw prog 79=some [(.map none)]:=by kernel_rfl
theorem Ar:dw prog 85=some [(.slice none 0 0)]:=by kernel_rfl
theorem Mz:dw prog 87=some [(.int .i64 0),(.slice none 0 0),(.slice none 0 0)]:=by kernel_rfl
theorem b8:prog.follows .mixedOrders=true:=by kernel_rfl
end Go.Proofs.YtalmoejhjceflaaGreat
