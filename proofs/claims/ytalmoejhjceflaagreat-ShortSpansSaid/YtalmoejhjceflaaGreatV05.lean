/-
  Part 6 of a proof (walks and plain facts).
-/
import Derived.Test.YtalmoejhjceflaaGreatV04
set_option linter.all false
set_option maxRecDepth 100000
set_option maxHeartbeats 64000000
namespace Go.Proofs.YtalmoejhjceflaaGreat
open Go.RowKit Go.Proofs.Tryz
variable {b:List Nat} {c e:List Int} {f:Array Oper} {x y:Int} {g:Nat->Prop} {s:AS} {n:Nat} {P:Program} {h:Prop} {j:Func} {l:TV}
section
structure Stp where
 i:Nat
 d:Option Tmp
 op:Op
 g:Option (Tmp×Bool)
def Jd (c:Array Oper) (o:Oper) (i:Nat):Stp:=match o.guard with
 |none=>⟨i,o.dst,o.op,none⟩
 |some (g,b)=>match(c[g]?).bind (·.dst)with
  |some d=>⟨i,o.dst,o.op,some (d,b)⟩
  |none=>⟨i,none,.extract (.func 0) 0,none⟩
def aV (b:Array Oper):List Oper->Nat->List Stp
 |[],_=>[]
 |o::l,i=>Jd b o i::aV b l (i+1)
section
variable (P:Program) (items:List (dD P)) (ow:List Nat)
noncomputable def opS (i : Nat) (d : Option Tmp) (op : Op) (s : AS) : Option AS := fo P items ow i ⟨d, op, 0, "", #[], none⟩ s
noncomputable def eV:Stp->AS->Option AS
 |⟨i,d,op,none⟩,s=>opS P items ow i d op s
 |⟨i,d,op,some (k,c)⟩,s=>match s.tmps[k]? with
  |some (.one (.p (.raw (.bool b))))=>if b=c then opS P items ow i d op s else some (s.put d .undef)
  |some (.tup [])=>some (s.put d .undef)
  |_=>none
noncomputable def bM:List Stp->Option AS->(AS->Prop)->Prop
 |_,none,_=>False
 |[],some s,Q=>Q s
 |st::l,some s,Q=>bM l (eV P items ow st s) Q
theorem RS (l:List Stp) (Q:AS->Prop):bM P items ow l none Q=False:=by cases l<;>rfl
theorem Wi (s:AS) (Q:AS->Prop):bM P items ow [] (some s) Q=Q s:=rfl
theorem D8 (b:Stp) (l:List Stp) (s:AS) (Q:AS->Prop):bM P items ow (b::l) (some s) Q=bM P items ow l (eV P items ow b s) Q:=rfl
theorem Al (i : Nat) (o : Oper) (s : AS) : fo P items ow i ⟨o.dst, o.op, 0, "", #[], none⟩ s = fo P items ow i o s := rfl
theorem Dj {i:Nat} {o:Oper} {b:AS} (c:fo P items ow i o s=some b):b.tmps.length=s.tmps.length:=by
 grind [fo,Option.map_eq_some_iff,nL]
theorem R9 {o:Oper} {i:Nat} {b:AS} (h:eV P items ow (Jd f o i) s=some b):bs P items ow f i o s=some b/\b.tmps.length=s.tmps.length:=by
 unfold Jd at h;unfold bs;cases l:o.guard with
 |none=>
  grind [eV,opS,Al,Dj]
 |some e=>
  obtain⟨g,c⟩:=e;rw[l]at h;simp only at h⊢;cases j:(f[g]?).bind (·.dst)with
  |none=>
   rw[j]at h;cases h
  |some d=>
   grind [eV,opS,Al,Dj,nL]
theorem aO (b:Array Oper): ∀(l:List Oper) (i:Nat) (s:AS) (Q:AS->Prop),bM P items ow (aV b l i) (some s) Q-> ∃e,ja P items ow b (l.zipIdx i) s=some e/\Q e
 |[],i,s,Q,h=>⟨s,rfl,h⟩
 |o::l,i,s,Q,h=>by
  simp only[aV,D8]at h;simp only[agt,ja];cases c:eV P items ow (Jd b o i) s with
  |none=>grind [RS]
  |some g=>
   rw[c]at h;obtain⟨f,j⟩:=R9 P items ow c;rw[f];exact aO b l (i+1) g Q h
variable {P}
theorem uK (items:List (ar P)) (ow:List Nat) {id:Nat} {Q:Exit->AS->Prop} (h:bM P (items.map ar.a) ow (aV f f.toList 0) (some s) (Q .normal)):bv P (.region id f false) Q s:=by
 obtain⟨e,b,c⟩:=aO P (items.map ar.a) ow f f.toList 0 s (Q .normal) h;exact Ky _ (ar.ok items) ow b c
variable {items} {ow}
variable {i:Nat} {d:Option Tmp} {s:AS}
theorem R8 (op:Op) (k:Tmp) (c:Bool):eV P items ow ⟨i,d,op,some (k,c)⟩ s=match s.tmps[k]? with
  |some (.one (.p (.raw (.bool b))))=>if b=c then eV P items ow ⟨i,d,op,none⟩ s else some (s.put d .undef)
  |some (.tup [])=>some (s.put d .undef)
  |_=>none:=rfl
theorem vI {op:Op} (h:qp op=true):eV P items ow ⟨i,d,op,none⟩ s=(kH P s.ev op).map (s.put d):=by
 show fo P items ow i ⟨d, op, 0, "", #[], none⟩ s = _;grind [fo]
theorem vJ {op:Op} (h:qp op=false) (h':A7 op=true):eV P items ow ⟨i,d,op,none⟩ s=(b9 P s.ev s.H op).map (s.put d):=by
 show fo P items ow i ⟨d, op, 0, "", #[], none⟩ s = _;grind [fo]
theorem VR (x:Operand):eV P items ow ⟨i,d,.move x,none⟩ s=(s.ev x).map (s.put d):=vI rfl
theorem LY (x:Operand):eV P items ow ⟨i,d,.assign x,none⟩ s=(s.ev x).map (s.put d):=vI rfl
theorem VS (c a b:Operand):eV P items ow ⟨i,d,.pick c a b,none⟩ s=(kH P s.ev (.pick c a b)).map (s.put d):=vI rfl
theorem Zy (op:BinOp) (t b:TypeId) (x y:Operand):eV P items ow ⟨i,d,.binOp op t x y b,none⟩ s=(kH P s.ev (.binOp op t x y b)).map (s.put d):=vI rfl
theorem acE (op:UnOp) (t:TypeId) (x:Operand):eV P items ow ⟨i,d,.unOp op t x,none⟩ s=(kH P s.ev (.unOp op t x)).map (s.put d):=vI rfl
theorem VP (t b:TypeId) (x:Operand):eV P items ow ⟨i,d,.convert t b x,none⟩ s=(kH P s.ev (.convert t b x)).map (s.put d):=vI rfl
theorem Jb (x:Operand) (k:Nat):eV P items ow ⟨i,d,.extract x k,none⟩ s=(kH P s.ev (.extract x k)).map (s.put d):=vI rfl
theorem VQ (t:TypeId) (x:Operand):eV P items ow ⟨i,d,.load t x,none⟩ s=(b9 P s.ev s.H (.load t x)).map (s.put d):=vJ rfl rfl
theorem C3 (t:TypeId) (x y:Operand):eV P items ow ⟨i,d,.indexAddr t x y,none⟩ s=(b9 P s.ev s.H (.indexAddr t x y)).map (s.put d):=vJ rfl rfl
theorem C2 (t:TypeId) (x:Operand) (f:Nat):eV P items ow ⟨i,d,.fieldAddr t x f,none⟩ s=(b9 P s.ev s.H (.fieldAddr t x f)).map (s.put d):=vJ rfl rfl
theorem Ry (t:TypeId) (x:Operand) (f:Nat):eV P items ow ⟨i,d,.field t x f,none⟩ s=(b9 P s.ev s.H (.field t x f)).map (s.put d):=vJ rfl rfl
theorem Rz (t:TypeId) (x:Operand) (c b e:Option Operand):eV P items ow ⟨i,d,.slice t x c b e,none⟩ s=(b9 P s.ev s.H (.slice t x c b e)).map (s.put d):=vJ rfl rfl
theorem Rw (t:TypeId) (b:Array (Nat×Operand)):eV P items ow ⟨i,d,.build t b,none⟩ s=(b9 P s.ev s.H (.build t b)).map (s.put d):=vJ rfl rfl
theorem FX (x:Operand):eV P items ow ⟨i,d,.nilCheck x,none⟩ s=(b9 P s.ev s.H (.nilCheck x)).map (s.put d):=vJ rfl rfl
theorem FV (f:Fn) (b c:Array Operand):eV P items ow ⟨i,d,.makeFunc f b c,none⟩ s=(b9 P s.ev s.H (.makeFunc f b c)).map (s.put d):=vJ rfl rfl
theorem ZB (x y:Operand) (c:Array TypeId):eV P items ow ⟨i,d,.call {callee:= .builtin .max,args:= #[x,y],argTypes:=c},none⟩ s=(Vx (fun a b=>if b>a then b else a) [s.ev x,s.ev y]).map (s.put d):=vI rfl
theorem ZC (x y:Operand) (c:Array TypeId):eV P items ow ⟨i,d,.call {callee:= .builtin .min,args:= #[x,y],argTypes:=c},none⟩ s=(Vx (fun a b=>if b<a then b else a) [s.ev x,s.ev y]).map (s.put d):=vI rfl
theorem ZA (c:Array Operand) (b:Array TypeId):eV P items ow ⟨i,d,.call {callee:= .builtin .len,args:=c,argTypes:=b},none⟩ s=(b9 P s.ev s.H (.call {callee:= .builtin .len,args:=c,argTypes:=b})).map (s.put d):=vJ rfl rfl
def C1 (d:Nat) (s:AS):Option (TV×List OObj)->Option AS
 |some (t,[])=>some (s.put (some d) t)
 |some (t,o::l)=>(match s.H d with|[]=>some (AS.put ⟨s.tmps,aK s.H d (o::l)⟩ (some d) t)|_=>none)
 |none=>none
theorem Bx {op:Op} {d:Nat} (h:qp op=false) (h':A7 op=false) (hD:iY P s.ev s.H op=none):eV P items ow ⟨i,some d,op,none⟩ s=C1 d s (dM P items ow i d s.ev s.H op):=by
 show fo P items ow i ⟨some d, op, 0, "", #[], none⟩ s = _;unfold fo C1;grind
theorem Zz {d:Nat} (e:TypeId) (x:Operand):eV P items ow ⟨i,some d,.box e x,none⟩ s=C1 d s (dM P items ow i d s.ev s.H (.box e x)):=Bx rfl rfl rfl
theorem Rv {d:Nat} (e:TypeId):eV P items ow ⟨i,some d,.alloc e,none⟩ s=C1 d s (dM P items ow i d s.ev s.H (.alloc e)):=Bx rfl rfl rfl
theorem C4 {d:Nat} (t:TypeId) (x y:Operand):eV P items ow ⟨i,some d,.makeSlice t x y,none⟩ s=C1 d s (dM P items ow i d s.ev s.H (.makeSlice t x y)):=Bx rfl rfl rfl
theorem By {d:Nat} (t:TypeId) (n:Nat) (b:Array (Nat×Operand)):eV P items ow ⟨i,some d,.buildSlice t n b,none⟩ s=C1 d s (dM P items ow i d s.ev s.H (.buildSlice t n b)):=Bx rfl rfl rfl
theorem VO {d:Nat} (f:FuncId) (c:Array Operand) (b:Array TypeId):eV P items ow ⟨i,some d,.call {callee:= .value (.func f),args:=c,argTypes:=b},none⟩ s=C1 d s (dM P items ow i d s.ev s.H (.call {callee:= .value (.func f),args:=c,argTypes:=b})):=Bx rfl rfl rfl
theorem Rx {d:Nat} (k:Tmp) (c:Array Operand) (b:Array TypeId):eV P items ow ⟨i,some d,.call {callee:= .value (.tmp k),args:=c,argTypes:=b},none⟩ s=C1 d s (dM P items ow i d s.ev s.H (.call {callee:= .value (.tmp k),args:=c,argTypes:=b})):=Bx rfl rfl rfl
def wrS (d:Option Tmp) (s:AS):Option Kr->Option AS
 |some q=>some (AS.put ⟨s.tmps.map (bi q.k),q.H⟩ d q.t)
 |none=>none
theorem RC (t:TypeId) (x y:Operand):eV P items ow ⟨i,d,.store t x y,none⟩ s=wrS d s (iY P s.ev s.H (.store t x y)):=by
 show fo P items ow i ⟨d, .store t x y, 0, "", #[], none⟩ s = _;grind [fo,wrS,qp,A7,dM]
def adF (d:Nat) (s:AS) (q:Option Kr) (r:Option (TV×List OObj)):Option AS:=match q with
 |some q=>wrS (some d) s (some q)
 |none=>C1 d s r
theorem LX {d:Nat} (xs:Array Operand) (ts:Array TypeId):eV P items ow ⟨i,some d,.call {callee:= .builtin .append,args:=xs,argTypes:=ts},none⟩ s=
  adF d s (iY P s.ev s.H (.call {callee:= .builtin .append,args:=xs,argTypes:=ts})) (dM P items ow i d s.ev s.H (.call {callee:= .builtin .append,args:=xs,argTypes:=ts})):=by
 cases hq:iY P s.ev s.H (.call {callee:= .builtin .append,args:=xs,argTypes:=ts})with
 |some q=>
  show fo P items ow i ⟨some d, .call { callee := .builtin .append, args := xs, argTypes := ts }, 0, "", #[], none⟩ s = _;unfold fo;simp only[qp,Y6,A7,Bool.false_eq_true,if_false,hq];rfl
 |none=>exact Bx rfl rfl hq
end
end
section
def Hm:List (Nat×List OObj)->OH
 |[],_=>[]
 |(k,F)::l,a=>if a=k then F else Hm l a
def abx (H:OH):List (Nat×List OObj)->Prop
 |[]=>True
 |(k,F)::l=>H k=F/\abx H l
def FR (b:List Nat):AV->Bool
 | .sl a _ _ _=>b.contains a
 | .ptr a _ _ _=>b.contains a
 | .fn _ a _=>b.contains a
 |_=>true
def Zx (b:List Nat):TV->Bool
 | .one x=>FR b x
 | .agg c=>c.all (FR b)
 | .fn _ c=>c.all (FR b)
 | .tup e=>e.all fun t=>t.2.all (FR b)
def wkL (b:List Nat):List TV->List TV->Prop
 |[],[]=>True
 |x::c,y::e=>(y= .one .junk\/(y=x/\Zx b y=true))/\wkL b c e
 |_,_=>False
section
variable {P:Program} {w0 w w':World} {O X:Nat->Prop} {ρ:Rho} {H:OH}
theorem NB {H:OH}: ∀{l:List (Nat×List OObj)},abx H l-> ∀a,((l.map (·.1)).contains a=true->Hm l a=H a)/\((l.map (·.1)).contains a=false->Hm l a=[])
 |[],_,a=>⟨fun h=>by simp at h,fun _=>rfl⟩
 |(k,F)::l,h,a=>by
  obtain⟨f,b⟩:=h;obtain⟨c,e⟩:=NB b a;grind [Hm]
theorem GJ {b:List Nat}: ∀{l m:List TV},wkL b l m->m.length=l.length/\ ∀(t:Nat) y,m[t]?=some y->y= .one .junk\/(l[t]?=some y/\Zx b y=true)
 |[],[],_=>⟨rfl,fun t y h=>by simp at h⟩
 |x::e,y::f,h=>by
  obtain⟨n,c⟩:=h;obtain⟨g,j⟩:=GJ c;grind
 |[],y::f,h=>h.elim
 |x::e,[],h=>h.elim
theorem aad {u:OH} {y:Nat->Prop} (s: ∀a,b.contains a=true->u a=H a) (A: ∀e,y e->g e) {x:AV} {v:Value} (t:FR b x=true) (h:x.rel ρ H g w v):x.rel ρ u y w v:=by
 cases x with
 |p x=>exact bS.weaken (fun e _ B=>A e B) h
 |sl a r C len=>
  obtain⟨o,l,m⟩:=h;exact⟨o,by rw[s a t];exact l,m⟩
 |ptr a r i j=>
  obtain⟨o,e,c,l,m⟩:=h;exact⟨o,e,c,by rw[s a t];exact l,m⟩
 |fn f a F=>
  obtain⟨vs,l,m,z,D⟩:=h;exact⟨vs,l,m,z,fun n q E=>by rw[s a t];grind⟩
 |junk=>trivial
theorem ak {tm:List TV} {l:List (Nat×List OObj)} (hl:abx s.H l) (ht:wkL (l.map (·.1)) s.tmps tm):bN s ⟨tm,Hm l⟩:=by
 rintro w0 O X a w ⟨K,aa,ρ,g,Q⟩;obtain⟨t1,t2⟩:=GJ ht;have hk:=fun a=>NB hl a
 have m: ∀(a r:Nat) o,(Hm l a)[r]?=some o->(l.map (·.1)).contains a=true/\(s.H a)[r]?=some o:=fun a r o q=>by
  grind
 have L: ∀b,Xo X ρ (Hm l) b->Xo X ρ s.H b:=fun b M=>by
  rcases M with M|⟨x,y,o,n,G,I⟩
  ·exact .inl M
  exact .inr ⟨x,y,o,n,(m x y o G).2,I⟩
 have E: ∀x v,FR (l.map (·.1)) x=true->AV.rel ρ s.H (Xo X ρ s.H) w x v->AV.rel ρ (Hm l) (Xo X ρ (Hm l)) w x v:=fun x v q h=>aad (fun a ha=>(hk a).1 ha) L q h
 have D: ∀z v,z.all (FR (l.map (·.1)))=true->dK ρ s.H (Xo X ρ s.H) w z v->dK ρ (Hm l) (Xo X ρ (Hm l)) w z v:=fun z v q h=>by
  simp only[aeP]at q;obtain⟨vs,G,I,g3⟩:=h;exact⟨vs,G,I,fun j x F=>by grind⟩
 refine⟨K,by grind,ρ,⟨g.keep,fun a r o q=>?_,fun a r S W o U b c Z q A=>g.inj a r S W o U b c Z (m a r o q).2 (m S W U A).2,fun a r o b c q=>g.old a r o b c (m a r o q).2,g.bar,fun a r o q=>g.self a r o (m a r o q).2⟩,fun t x F=>?_⟩
 ·obtain⟨N,A⟩:=m a r o q;obtain⟨q1,q2,V⟩:=g.objs a r o A;refine⟨q1,q2,?_⟩;cases hr:ρ a r with
  |none=>grind
  |some Y=>
   obtain⟨b,c⟩:=Y;rw[hr]at V;obtain⟨cells,p1,p2,p3,p4,p5⟩:=V;refine⟨cells,p1,p2,p3,p4,fun i e j x T F=>?_⟩;obtain⟨u,u1,u2,u3⟩:=p5 i e j x T F;have C:=g.self a r o A e (adQ T) x (adQ F);refine⟨u,u1,u2,E x u ?_ u3⟩;cases x with
   |sl y _ _ _=>have C:y=a:=C;subst C;exact N
   |ptr y _ _ _=>have C:y=a:=C;subst C;exact N
   |fn _ y _=>have C:y=a:=C.1;subst C;exact N
   |p y=>rfl
   |junk=>rfl
 rcases t2 t x F with rfl|⟨R,B⟩
 ·obtain⟨v,hv⟩: ∃v,a.tmps[t]?=some v:=by
   have:t<tm.length:=(aeI.1 F).1;simp_all
  exact⟨v,hv,trivial⟩
 obtain⟨v,v1,J⟩:=Q t x R;refine⟨v,v1,?_⟩;cases x with
 |one x=>exact E x v B J
 |agg z=>exact D z v B J
 |fn f z=>obtain⟨u,K,h2⟩:=J;exact⟨u,D z u B K,h2⟩
 |tup ts=>
  simp only[Zx,aeP]at B;obtain⟨vs,G,I,g3⟩:=J;refine⟨vs,G,I,fun j b z hj=>?_⟩;grind
theorem ca {k d:Nat} (E:TypeId) (y:Nat) (F:0<y) (K:s.H d=[]) (M:s.tmps[k]?=some (.raw (.slice none 0 0))):bN s ⟨s.tmps.set k (.one (.sl d 0 0 0)),aK s.H d [⟨E,y,[]⟩]⟩:=by
 rintro w0 O X a w ⟨J,N,ρ,f,n⟩;have n:bz X ρ s a w:=n;obtain⟨v,T,U⟩:=n k _ M;have Q:=(bo U).1;subst Q;have A: ∀(r b c:Nat),(fun _=>none:Nat->Option (Nat×Nat)) r=some (b,c)->w.heap.size<=b:=fun r b c h=>by cases h
 have m: ∀x u,AV.rel ρ s.H (Xo X ρ s.H) w x u->AV.rel (newρ ρ d fun _=>none) (aK s.H d [⟨E,y,[]⟩]) (Xo X (newρ ρ d fun _=>none) (aK s.H d [⟨E,y,[]⟩])) w x u:=fun x u h=>lN f (fm.refl w) K A h
 refine⟨J,by grind,newρ ρ d fun _=>none,⟨f.keep,fun l r o g=>?_,fun l r q S o R b c I g B C D=>?_,fun l r o b c g C=>?_,f.bar,fun l r o g=>?_⟩,fun t x p=>?_⟩
 ·by_cases j:l=d
  ·subst j;simp only[be]at g;cases r with
   |succ r=>simp at g
   |zero=>simp at g;subst g;exact⟨by simp,F,by rw[newρ_eq]⟩
  simp only[aU j]at g;exact gt (f.objs l r o g) (newρ_ne j r) (fun b c V=>rfl) m
 ·by_cases j:l=d
  ·grind [newρ_eq]
  by_cases z:q=d
  ·grind [newρ_eq]
  rw[newρ_ne j]at C;rw[newρ_ne z]at D;simp only[aU j]at g;simp only[aU z]at B;exact f.inj l r q S o R b c I g B C D
 ·by_cases j:l=d
  ·grind [newρ_eq]
  rw[newρ_ne j]at C;simp only[aU j]at g;exact f.old l r o b c g C
 ·by_cases j:l=d
  ·subst j;simp only[be]at g;cases r with
   |succ r=>simp at g
   |zero=>simp at g;subst g;exact fun e L=>by simp at L
  simp only[aU j]at g;exact f.self l r o g
 by_cases G:k=t
 ·subst G;simp only[afG,if_true]at p;split at p
  ·injection p with p
   subst p;exact⟨_,T,⟨E,y,[]⟩,by grind [be],by simp,.inl ⟨by rw[newρ_eq],rfl,rfl,rfl⟩⟩
  cases p
 grind [TV.rel_map]
theorem sG {Z:Nat->Prop} {a f len:Nat} {o:OObj} {v:Value} {F:AV->PV} (G:objRel ρ H g w a n o) (R:(H a)[n]?=some o) (l: ∀e∈o.elems,∀x∈e,∀u,x.rel ρ H g w u->bS Z w (F x) u) (E: ∀b c,ρ a n=some (b,c)-> ¬Z b) (h:AV.rel ρ H g w (.sl a n f len) v):bS Z w (.sl (((o.elems.take (f+len)).drop f).map (List.map F))) v:=by
 obtain⟨o',B,W,N⟩:=h;rw[R]at B;injection B with B
 subst B;obtain⟨q1,q2,L⟩:=G;have K:(((o.elems.take (f+len)).drop f).map (List.map F)).length=len:=by simp;omega
 rcases N with⟨D,C,Q,go⟩|⟨b,c,cap,D,C,J,_⟩
 ·rw[agD.1 (K.trans Q),C];exact bS.nil _ _
 by_cases y:len=0
 ·rw[agD.1 (K.trans y),C,y];exact bS.nil _ _
 rw[D]at L;obtain⟨cells,S,p2,p3,p4,T⟩:=L;have z: ∀(i:Nat) e,(((o.elems.take (f+len)).drop f).map (List.map F))[i]?=some e-> ∃q,o.elems[f+i]?=some q/\e=q.map F:=fun i e m=>by
  grind
 have s: ∀(i:Nat) e (j:Nat) x,(((o.elems.take (f+len)).drop f).map (List.map F))[i]?=some e->e[j]?=some x-> ∃u:Value,cells[(f+i)*o.es+j]?=some u/\bS Z w x u:=fun i e j x m p=>by
  obtain⟨q,t,rfl⟩:=z i e m;rw[aeG]at p;obtain⟨M,A,rfl⟩:=adT.1 p;obtain⟨u,I,U,V⟩:=T _ q j M t A;exact⟨u,I,l q (adQ t) M (adQ A) u V⟩
 rw[C];have:=bS.sl (X:=Z) (w:=w) b (f*o.es) o.es cap (((o.elems.take (f+len)).drop f).map (List.map F)) (fun i j=>(cells[(f+i)*o.es+j]?).getD undef) (E b c D) (ae4.1 S).1
  (fun e m=>by
   grind [List.mem_of_mem_drop]) (by omega) (by omega)
  (fun i e j x m p=>by
   obtain⟨u,I,_⟩:=s i e j x m p;grind [cell_of_row])
  (fun i e j x m p=>by
   obtain⟨u,I,U⟩:=s i e j x m p;grind)
 grind
def qo (H:OH) (a:Nat):AV->PV
 | .p x=>x
 | .sl _ r b len=>match(H a)[r]? with
  |some o=> .sl (((o.elems.take (b+len)).drop b).map (List.map unP))
  |none=> .raw undef
 |_=> .raw undef
def gn (H:OH) (a:Nat):AV->AV
 | .sl b r c len=>if b=a then(match(H a)[r]? with
  |some o=> .p (.sl (((o.elems.take (c+len)).drop c).map (List.map (qo H a))))
  |none=> .junk)else .sl b r c len
 | .ptr b r i j=>if b=a then .junk else .ptr b r i j
 | .fn f b e=>if b=a then .junk else .fn f b e
 |x=>x
theorem Vn (H:OH) (a:Nat):s8 (gn H a):=fun f b e=>by
 by_cases h:b=a
 ·exact .inl (if_pos h)
 exact .inr ⟨b,e,if_neg h,rfl,fun n q c=>⟨q,c,if_neg h⟩⟩
def f5 (H:OH) (a:Nat):TV->TV
 | .one x=> .one (gn H a x)
 | .agg b=> .agg (b.map (gn H a))
 | .fn f b=> .fn f (b.map (gn H a))
 | .tup c=> .tup (c.map fun t=>(t.1,t.2.map (gn H a)))
def fE (o:OObj):Prop:= ∀e∈o.elems,∀x∈e,isPure x=true
def ve (H:OH) (a:Nat):Prop:= ∀(r:Nat) o,(H a)[r]?=some o-> ∀e∈o.elems,∀x∈e,isPure x=true\/ ∃f b len c,x= .sl a f b len/\(H a)[f]?=some c/\fE c
theorem UK {w0 w:World} {X:Nat->Prop} {ρ:Rho} {K:Act} (a:Nat) (U:ve s.H a) (f:Inv w0 g X s.H ρ w) (W:bz X ρ s K w):Inv w0 g X (aK s.H a []) ρ w/\bz X ρ ⟨s.tmps.map (f5 s.H a),aK s.H a []⟩ K w:=by
 have m: ∀(x y:Nat) o,(aK s.H a [] x)[y]?=some o->x≠a/\(s.H x)[y]?=some o:=fun x y o A=>by
  grind [be,aU]
 have L: ∀b,Xo X ρ (aK s.H a []) b->Xo X ρ s.H b:=fun b q=>by
  rcases q with q|⟨x,y,o,n,B,D⟩
  ·exact .inl q
  exact .inr ⟨x,y,o,n,(m x y o B).2,D⟩
 have M: ∀(r:Nat) o,(s.H a)[r]?=some o-> ∀b c,ρ a r=some (b,c)-> ¬Xo X ρ (aK s.H a []) b:=fun r o A b c hr T=>by
  rcases T with T|⟨x,y,F,n,B,D⟩
  ·exact(f.old a r o b c A hr).2 T
  obtain⟨I,S⟩:=m x y F B;exact I (f.inj x y a r F o b n c S A D hr).1
 have C: ∀x u,isPure x=true->AV.rel ρ s.H (Xo X ρ s.H) w x u->bS (Xo X ρ (aK s.H a [])) w (unP x) u:=fun x u Q h=>by
  cases x<;>first|exact bS.weaken (fun b _ q=>L b q) h|cases Q
 have G: ∀(r:Nat) o,(s.H a)[r]?=some o-> ∀e∈o.elems,∀x∈e,∀u,AV.rel ρ s.H (Xo X ρ s.H) w x u->bS (Xo X ρ (aK s.H a [])) w (qo s.H a x) u:=fun r o A e N x I u R=>by
  rcases U r o A e N x I with Q|⟨r',Z,len,F,rfl,l,V⟩
  ·have:=C x u Q R;cases x<;>first|exact this|cases Q
  simp only[qo,l];exact sG (f.objs a r' F l) l (fun e N y Y u R=>C y u (V e N y Y) R) (M r' F l) R
 have E: ∀x v,AV.rel ρ s.H (Xo X ρ s.H) w x v->AV.rel ρ (aK s.H a []) (Xo X ρ (aK s.H a [])) w (gn s.H a x) v:=kW (Vn s.H a) fun x v hn h=>by
  cases x with
  |fn=>cases hn
  |p x=>exact bS.weaken (fun b _ q=>L b q) h
  |sl b r Z len=>
   simp only[gn];by_cases q:b=a
   ·subst q;rw[if_pos rfl];have h':=h;obtain⟨o,B,D,g3⟩:=h;rw[B];exact sG (f.objs b r o B) B (G r o B) (M r o B) h'
   rw[if_neg q];obtain⟨o,B,D⟩:=h;exact⟨o,by grind [aU],D⟩
  |ptr b r i j=>
   simp only[gn];by_cases q:b=a
   ·subst q;rw[if_pos rfl];trivial
   rw[if_neg q];obtain⟨o,b',c,B,D⟩:=h;exact⟨o,b',c,by grind [aU],D⟩
  |junk=>trivial
 refine⟨⟨f.keep,fun x y o A=>?_,fun x y x' y' o F b c c' A l=>f.inj x y x' y' o F b c c' (m x y o A).2 (m x' y' F l).2,fun x y o b c A=>f.old x y o b c (m x y o A).2,f.bar,fun x y o A=>f.self x y o (m x y o A).2⟩,fun t x I=>?_⟩
 ·obtain⟨I,l⟩:=m x y o A;refine dV (f.objs x y o l) rfl (fun _ _ _=>rfl) fun e N z hz u u3=>?_
  have J:=f.self x y o l e N z hz;have:=E z u u3;cases z with
  |sl z _ _ _=>have J:z=x:=J;grind [gn]
  |ptr z _ _ _=>have J:z=x:=J;grind [gn]
  |fn _ z _=>have J:z=x:=J.1;grind [gn]
  |p z=>exact this
  |junk=>trivial
 simp only[aeG]at I;obtain⟨y,Y,rfl⟩:=adT.1 I;obtain⟨v,v1,v2⟩:=W t y Y;refine⟨v,v1,?_⟩;have:=jK v2 E;cases y<;>exact this
theorem bR {s:AS} (a:Nat) (c:ve s.H a):bN s ⟨s.tmps.map (f5 s.H a),aK s.H a []⟩:=by
 rintro w0 O X f w ⟨g,j,ρ,b,e⟩;obtain⟨h,l⟩:=UK a c b e;exact⟨g,by grind,ρ,h,l⟩
end
end
section
section
variable {P:Program} {s:AS} {Q:Exit->AS->Prop} {x y z:Code}
theorem bf (b:List (ar P)) (c:List Nat) {id:Nat} (h: ∀K:AS->Prop,(∀e,bv P y Q e->K e)->bM P (b.map ar.a) c (aV f f.toList 0) (some s) K):bv P (.seq (.region id f false) y) Q s:=
 aj (uK b c (h _ fun _ h=>h))
theorem qJ (b:List (ar P)) (c:List Nat) {id:Nat} (h: ∀K:AS->Prop,(∀e,Q .normal e->K e)->bM P (b.map ar.a) c (aV f f.toList 0) (some s) K):bv P (.region id f false) Q s:=
 uK b c (h _ fun _ h=>h)
theorem am {y:Code} {id:Nat} (h: ∀K:AS->Prop,(∀b,bv P y Q b->K b)->bM P [] [] (aV f f.toList 0) (some s) K):bv P (.seq (.region id f false) y) Q s:=bf [] [] h
theorem cJ {id:Nat} (h: ∀K:AS->Prop,(∀b,Q .normal b->K b)->bM P [] [] (aV f f.toList 0) (some s) K):bv P (.region id f false) Q s:=qJ [] [] h
theorem EG {G:Type} (St:G->AS) (b:G->Nat) (e:G) {id:Nat} (f:bN s (St e))
  (round: ∀g,bv P x (l8 (fun h=> ∃c,b c<b g/\bN h (St c)) (w7 id (l8 (bv P y Q) Q))) (St g)):bv P (.seq (.block id (.loop x)) y) Q s:=
 aj (ao (Ha St b e f round))
theorem ay {G:Type} (St:G->AS) (b:G->Nat) (e:G) {id:Nat} (f:bN s (St e))
  (round: ∀g,bv P x (l8 (fun h=> ∃c,b c<b g/\bN h (St c)) (w7 id Q)) (St g)):bv P (.block id (.loop x)) Q s:=
 ao (Ha St b e f round)
theorem aH {n:Int} (b: -9223372036854775808<=n) (c:n<=9223372036854775807):IntKind.i64.wrap n=n:=aht _ (by omega)
theorem eD {n:Int} (b:0<=n) (c:n<18446744073709551616):IntKind.u64.wrap n=n:=by rw[afK];omega
theorem Qz {f:FuncId} {args:List TV} {res:CallRes} (k:Nat) (j:List (List PV)) (r:args[k]?=some (.one (.p (.sl j)))) (h:j.length<=9223372036854775807->CallC P f args res) (n:callable P f=true):CallC P f args res:=by
 refine⟨n,fun X w vs m l e=>?_⟩;obtain⟨v,_,g⟩:=e k _ r;have g:bS X w (.sl j) v:=g;refine(h ?_).2 X w vs m l e;cases g with
 |nil a c=>simp
 |sl b u A cap j f m B q o t n g=>exact t
end
end
section
def ls {b:Type} (f:b->List PV) (l:List b):List (List PV):=l.map f
def lc {b:Type} (f:b->List PV) (l:List b):List (List AV):=l.map fun x=>(f x).map AV.p
section
variable {α:Type} {f:α->List PV}
theorem iM (l:List α):(ls f l).length=l.length:=by simp[ls]
theorem fO (l:List α):(lc f l).length=l.length:=by simp[lc]
theorem kN (l:List α) (i:Nat):(ls f l)[i]?=(l[i]?).map f:=by simp[ls]
theorem Bf (l:List α) (i:Nat):(lc f l)[i]?=(l[i]?).map fun x=>(f x).map AV.p:=by simp[lc]
theorem Zj (l:List α) (i:Nat):(ls f l).take i=ls f (l.take i):=by simp[ls]
theorem Zi (l:List α) (i:Nat):(ls f l).drop i=ls f (l.drop i):=by simp[ls]
theorem ld (l:List α) (i:Nat):(lc f l).take i=lc f (l.take i):=by simp[lc]
theorem Fx (l:List α) (i:Nat):(lc f l).drop i=lc f (l.drop i):=by simp[lc]
theorem acv (l:List α):(ls f l).map (List.map AV.p)=lc f l:=by simp[ls,lc]
theorem Zl (l:List PV):(l.map AV.p).map unP=l:=by rw[aga];exact(ae1 (fun _ _=>rfl)).trans (agz l)
theorem nG (l:List α):(lc f l).map (List.map unP)=ls f l:=by
 grind [ls,lc,List.map_congr_left,Zl]
theorem jp (H:OH) (a:Nat) (l:List α):(lc f l).map (List.map (qo H a))=ls f l:=by
 simp only[ls,lc,aga];refine ae1 fun x _=>?_
 show((f x).map AV.p).map (qo H a)=f x;rw[aga];exact(ae1 (fun _ _=>rfl)).trans (agz _)
theorem Fw (l:List α):((lc f l).all fun e=>e.all isPure)=true:=by
 simp[lc,isPure]
theorem LA (l m:List α):lc f l++lc f m=lc f (l++m):=by simp[lc]
theorem OM (x:α) (l:List α):ls f (x::l)=f x::ls f l:=rfl
theorem Fy:lc f []=[]:=rfl
theorem acu:ls f []=[]:=rfl
theorem tW (l:List α) (i:Nat) (x:α):(lc f l).set i ((f x).map AV.p)=lc f (l.set i x):=by simp_all[lc]
theorem fj (e: ∀x,(f x).length=n) (l:List α):(∀c∈ls f l,c.length=n)=True:=by
 simp only[eq_iff_iff,iff_true];intro c b;obtain⟨x,_,rfl⟩:=aeL.1 b;exact e x
theorem jg (e: ∀x,(f x).length=n) (l:List α):(∀c∈lc f l,c.length=n)=True:=by
 simp only[eq_iff_iff,iff_true];intro c b;obtain⟨x,_,rfl⟩:=aeL.1 b;grind
theorem zp (k:Nat->Nat->Bool) (l:List α):(lc f l).map (List.map (aY k))=lc f l:=by
 grind [lc,List.map_congr_left,aY]
theorem jh (d:Nat) (l:List α):(lc f l).map (List.map (dA d))=lc f l:=by
 grind [lc,List.map_congr_left,dA]
theorem Rn (h:0<=x):DP x=some x.toNat:=if_pos h
theorem bF (t:TypeId) (n:Nat) (l:List α):fE ⟨t,n,lc f l⟩:=fun e b x c=>by
 obtain⟨y,_,rfl⟩:=aeL.1 b;obtain⟨z,_,rfl⟩:=aeL.1 c;rfl
theorem bj {H:OH} {a:Nat} {t:TypeId} {l:List α} (h:H a=[⟨t,n,lc f l⟩]):ve H a:=fun r o b e c x g=>by
 rw[h]at b;cases r with
 |succ r=>simp at b
 |zero=>simp at b;subst b;exact .inl (bF t n l e c x g)
end
theorem abP {b:Type} (p:b->Prop):(∀e∈([]:List b),p e)=True:=by simp
theorem Yv {b:Type} (p:b->Prop) (x:b) (l:List b):(∀e∈x::l,p e)=(p x/\ ∀e∈l,p e):=by simp
theorem ifT [Decidable h] (e:h) {f:Type} (a b:f):(if h then a else b)=a:=if_pos e
theorem ifF [Decidable h] (e: ¬h) {f:Type} (a b:f):(if h then a else b)=b:=if_neg e
theorem aes [Decidable h] (b:h):decide h=true:=decide_eq_true b
theorem aer [Decidable h] (b: ¬h):decide h=false:=decide_eq_false b
def fU (n:Nat):List PV:=[.raw (.int .u32 (n:Int))]
theorem n4 (n:Nat):(fU n).length=1:=rfl
def fI (z:Int):List PV:=[.raw (.int .i64 z)]
theorem Fb (n:Int):(fI n).length=1:=rfl
def fN (z:Nat):List PV:=[.raw (.int .i64 (z:Int))]
theorem Bt {d:Nat} (h:noRefTV l=true):selfTV d l/\renTV 0 l=l:=by
 have c: ∀x,iu x=true->bJ d x/\dA 0 x=x:=fun x b=>by cases x<;>first|exact⟨trivial,rfl⟩|cases b
 cases l with
 |one x=>exact⟨(c x h).1,by simp only[renTV,(c x h).2]⟩
 |agg g=>
  simp only[noRefTV,aeP]at h;exact⟨fun x b=>(c x (h x b)).1,by simp only[renTV];congr 1;exact(ae1 fun x b=>(c x (h x b)).2).trans (agz _)⟩
 |fn f g=>
  simp only[noRefTV,aeP]at h;exact⟨fun x b=>(c x (h x b)).1,by simp only[renTV];congr 1;exact(ae1 fun x b=>(c x (h x b)).2).trans (agz _)⟩
 |tup j=>
  simp only[noRefTV,aeP]at h;refine⟨fun l e x b=>(c x (h l e x b)).1,?_⟩;simp only[renTV]
  congr 1
  refine(ae1 fun l e=>?_).trans (agz _);show(l.1,l.2.map (dA 0))=l;rw[(ae1 fun x b=>(c x (h l e x b)).2).trans (agz l.2)]
theorem lG (l:List Nat) (a:Nat):lc fU l++[[AV.p (.raw (.int .u32 (a:Int)))]]=lc fU (l++[a]):=by simp[lc,fU]
theorem j6 (l:List Int) (a:Int):lc fI l++[[AV.p (.raw (.int .i64 a))]]=lc fI (l++[a]):=by simp[lc,fI]
theorem oL (l:List Nat) (a:Nat):lc fN l++[[AV.p (.raw (.int .i64 (a:Int)))]]=lc fN (l++[a]):=by simp[lc,fN]
theorem oW {d:Nat} (b:s.H d=[]) (h:uh P s j.results.toList=some l) (c:noRefTV l=true):qn P j ⟨[],l⟩ s:=
 ⟨l,d,h,RV (Bt c).1 b,by rw[b];rfl,(Bt (d:=0) c).2.symm⟩
theorem dI (d:Nat) (b:ve s.H d) (h:uh P ⟨s.tmps.map (f5 s.H d),aK s.H d []⟩ j.results.toList=some l) (e:noRefTV l=true): ∃c,bN s c/\qn P j ⟨[],l⟩ c:=
 ⟨_,bR d b,oW (d:=d) (by simp[aK]) h e⟩
theorem bQ (c:s.H 1000=[]) (h:uh P s j.results.toList=some l) (e:noRefTV l=true): ∃b,bN s b/\qn P j ⟨[],l⟩ b:=
 ⟨_,bN.refl _,oW c h e⟩
end
theorem Se:iI prog 131=some false:=by kernel_rfl
theorem Sf:iI prog 133=some true:=by kernel_rfl
theorem Sg:iI prog 143=some true:=by kernel_rfl
theorem Sh:iI prog 165=some false:=by kernel_rfl
theorem Si:iI prog 171=some false:=by kernel_rfl
theorem Sj:iI prog 177=some true:=by kernel_rfl
theorem Sk:iI prog 180=some true:=by kernel_rfl
theorem Sl:iI prog 182=some false:=by kernel_rfl
theorem Sm:iI prog 188=some true:=by kernel_rfl
theorem Sn:iI prog 190=some false:=by kernel_rfl
theorem PP:iI prog 2=some false:=by kernel_rfl
theorem Xc:iI prog 22=some false:=by kernel_rfl
theorem So:iI prog 224=some true:=by kernel_rfl
theorem Sp:iI prog 232=some true:=by kernel_rfl
theorem Xd:iI prog 24=some true:=by kernel_rfl
theorem Xe:iI prog 26=some false:=by kernel_rfl
theorem JU:iI prog 28=some false:=by kernel_rfl
theorem Xf:iI prog 29=some false:=by kernel_rfl
theorem PQ:iI prog 3=some false:=by kernel_rfl
theorem Xg:iI prog 35=some false:=by kernel_rfl
theorem zF:iI prog 4=some false:=by kernel_rfl
theorem JV:iI prog 42=some false:=by kernel_rfl
theorem aaq:iI prog 5=some false:=by kernel_rfl
theorem wD:iI prog 63=some false:=by kernel_rfl
theorem rQ:iI prog 65=some true:=by kernel_rfl
theorem Xh:iI prog 75=some true:=by kernel_rfl
theorem Xi:iI prog 76=some false:=by kernel_rfl
theorem Xj:iI prog 79=some false:=by kernel_rfl
theorem Xk:iI prog 84=some false:=by kernel_rfl
theorem JW:iI prog 85=some false:=by kernel_rfl
theorem Xl:iI prog 87=some true:=by kernel_rfl
theorem wE:As prog 3=false:=by kernel_rfl
theorem wF:As prog 4=true:=by kernel_rfl
theorem Xm:byO prog 133=some 16:=by kernel_rfl
theorem Xn:byO prog 165=some 4:=by kernel_rfl
theorem Xp:byO prog 177=some 32:=by kernel_rfl
theorem adf:byO prog 2=some 8:=by kernel_rfl
theorem Xq:byO prog 3=some 8:=by kernel_rfl
theorem aar:byO prog 35=some 24:=by kernel_rfl
theorem aas:byO prog 42=some 24:=by kernel_rfl
theorem PR:byO prog 65=some 32:=by kernel_rfl
theorem aat:byO prog 75=some 32:=by kernel_rfl
theorem PS:byO prog 85=some 24:=by kernel_rfl
theorem JX:dr prog 104 0=some (0,22):=by kernel_rfl
theorem JY:dr prog 104 1=some (1,3):=by kernel_rfl
theorem yJ:dr prog 108 0=some (0,42):=by kernel_rfl
theorem yK:dr prog 108 1=some (1,28):=by kernel_rfl
theorem JZ:dr prog 133 0=some (0,2):=by kernel_rfl
theorem J0:dr prog 133 1=some (1,2):=by kernel_rfl
theorem J1:dr prog 143 0=some (0,65):=by kernel_rfl
theorem J2:dr prog 143 1=some (2,65):=by kernel_rfl
theorem J3:dr prog 173 0=some (0,171):=by kernel_rfl
theorem J4:dr prog 177 1=some (1,35):=by kernel_rfl
theorem J5:dr prog 180 0=some (0,35):=by kernel_rfl
theorem J6:dr prog 180 1=some (1,26):=by kernel_rfl
theorem J7:dr prog 188 0=some (0,35):=by kernel_rfl
theorem J8:dr prog 188 1=some (1,26):=by kernel_rfl
theorem J9:dr prog 222 0=some (0,2):=by kernel_rfl
theorem Kb:dr prog 222 1=some (1,35):=by kernel_rfl
theorem Kc:dr prog 222 2=some (2,26):=by kernel_rfl
theorem Kd:dr prog 222 3=some (3,35):=by kernel_rfl
theorem Ke:dr prog 224 0=some (0,84):=by kernel_rfl
theorem Kf:dr prog 224 1=some (1,85):=by kernel_rfl
theorem MS:dr prog 24 0=some (0,5):=by kernel_rfl
theorem MT:dr prog 24 1=some (1,5):=by kernel_rfl
theorem MU:dr prog 24 2=some (2,22):=by kernel_rfl
theorem MV:dr prog 24 3=some (3,22):=by kernel_rfl
theorem qh:dr prog 65 0=some (0,4):=by kernel_rfl
theorem qi:dr prog 65 1=some (1,63):=by kernel_rfl
theorem MW:dr prog 75 0=some (0,2):=by kernel_rfl
theorem MX:dr prog 75 1=some (1,35):=by kernel_rfl
theorem MY:dr prog 87 0=some (0,3):=by kernel_rfl
theorem MZ:dr prog 87 1=some (1,84):=by kernel_rfl
theorem M3:dr prog 87 2=some (2,85):=by kernel_rfl
theorem Sr:CZ prog 116=some .u64:=by kernel_rfl
theorem Ss:CZ prog 165=some .u32:=by kernel_rfl
theorem aau:CZ prog 2=some .i64:=by kernel_rfl
theorem aav:CZ prog 3=some .i64:=by kernel_rfl
theorem aaw:CZ prog 5=some .u8:=by kernel_rfl
theorem Su:iv prog 104=some [(0,1),(1,1)]:=by kernel_rfl
theorem Sv:iv prog 133=some [(0,1),(1,1)]:=by kernel_rfl
theorem Sw:iv prog 143=some [(0,2),(2,2)]:=by kernel_rfl
theorem Sx:iv prog 173=some [(0,1),(1,1)]:=by kernel_rfl
theorem Sy:iv prog 177=some [(0,1),(1,1)]:=by kernel_rfl
theorem SA:iv prog 180=some [(0,1),(1,1)]:=by kernel_rfl
theorem SB:iv prog 188=some [(0,1),(1,1)]:=by kernel_rfl
theorem SC:iv prog 222=some [(0,1),(1,1),(2,1),(3,1)]:=by kernel_rfl
theorem SD:iv prog 224=some [(0,1),(1,1)]:=by kernel_rfl
theorem wG:iv prog 65=some [(0,1),(1,1)]:=by kernel_rfl
theorem Xr:iv prog 75=some [(0,1),(1,1)]:=by kernel_rfl
theorem Xs:iv prog 87=some [(0,1),(1,1),(2,1)]:=by kernel_rfl
theorem Kg:sliceO prog 171=some 177:=by kernel_rfl
theorem M4:sliceO prog 22=some 157:=by kernel_rfl
theorem M5:sliceO prog 26=some 35:=by kernel_rfl
theorem CF:sliceO prog 28=some 3:=by kernel_rfl
theorem CG:sliceO prog 35=some 2:=by kernel_rfl
theorem CH:sliceO prog 42=some 85:=by kernel_rfl
theorem qj:sliceO prog 63=some 165:=by kernel_rfl
theorem M6:sliceO prog 72=some 75:=by kernel_rfl
theorem M7:sliceO prog 76=some 133:=by kernel_rfl
theorem M8:sliceO prog 84=some 42:=by kernel_rfl
theorem CI:sliceO prog 85=some 65:=by kernel_rfl
theorem Xt:szO prog 131=some 1:=by kernel_rfl
theorem Xu:szO prog 133=some 2:=by kernel_rfl
theorem Xv:szO prog 143=some 4:=by kernel_rfl
theorem Xw:szO prog 165=some 1:=by kernel_rfl
theorem Xx:szO prog 171=some 1:=by kernel_rfl
theorem Xy:szO prog 173=some 2:=by kernel_rfl
theorem Xz:szO prog 177=some 2:=by kernel_rfl
theorem XA:szO prog 180=some 2:=by kernel_rfl
theorem XC:szO prog 182=some 1:=by kernel_rfl
theorem XD:szO prog 188=some 2:=by kernel_rfl
theorem XE:szO prog 190=some 1:=by kernel_rfl
theorem XF:szO prog 2=some 1:=by kernel_rfl
theorem aax:szO prog 22=some 1:=by kernel_rfl
theorem XG:szO prog 224=some 2:=by kernel_rfl
theorem XH:szO prog 232=some 2:=by kernel_rfl
theorem aay:szO prog 24=some 4:=by kernel_rfl
theorem aaz:szO prog 26=some 1:=by kernel_rfl
theorem PT:szO prog 28=some 1:=by kernel_rfl
theorem aaA:szO prog 29=some 1:=by kernel_rfl
theorem XI:szO prog 3=some 1:=by kernel_rfl
theorem aaB:szO prog 35=some 1:=by kernel_rfl
theorem GD:szO prog 4=some 1:=by kernel_rfl
theorem PU:szO prog 42=some 1:=by kernel_rfl
theorem adg:szO prog 5=some 1:=by kernel_rfl
theorem zG:szO prog 63=some 1:=by kernel_rfl
theorem wH:szO prog 65=some 2:=by kernel_rfl
theorem aaC:szO prog 75=some 2:=by kernel_rfl
theorem aaD:szO prog 76=some 1:=by kernel_rfl
theorem aaE:szO prog 79=some 1:=by kernel_rfl
theorem aaF:szO prog 84=some 1:=by kernel_rfl
theorem PW:szO prog 85=some 1:=by kernel_rfl
theorem aaG:szO prog 87=some 3:=by kernel_rfl
theorem M9:zeroO prog 104=some [(.slice none 0 0),(.int .i64 0)]:=by kernel_rfl
theorem Na:zeroO prog 108=some [(.slice none 0 0),(.slice none 0 0)]:=by kernel_rfl
theorem Nb:zeroO prog 131=some [.nilFunc]:=by kernel_rfl
theorem Nc:zeroO prog 133=some [(.int .i64 0),(.int .i64 0)]:=by kernel_rfl
theorem Nd:zeroO prog 143=some [(.bool false),(.slice none 0 0),(.bool false),(.slice none 0 0)]:=by kernel_rfl
theorem Nf:zeroO prog 165=some [(.int .u32 0)]:=by kernel_rfl
theorem Ng:zeroO prog 173=some [(.slice none 0 0),.nilFunc]:=by kernel_rfl
theorem Nh:zeroO prog 177=some [(.int .i64 0),(.slice none 0 0)]:=by kernel_rfl
theorem Ni:zeroO prog 180=some [(.slice none 0 0),(.slice none 0 0)]:=by kernel_rfl
theorem Nj:zeroO prog 182=some [.nilFunc]:=by kernel_rfl
theorem Nk:zeroO prog 188=some [(.slice none 0 0),(.slice none 0 0)]:=by kernel_rfl
theorem Nl:zeroO prog 190=some [.nilFunc]:=by kernel_rfl
theorem XJ:zeroO prog 2=some [(.int .i64 0)]:=by kernel_rfl
theorem Nm:zeroO prog 222=some [(.int .i64 0),(.slice none 0 0),(.slice none 0 0),(.slice none 0 0)]:=by kernel_rfl
theorem Nn:zeroO prog 224=some [(.slice none 0 0),(.slice none 0 0)]:=by kernel_rfl
theorem No:zeroO prog 232=some [(.int .u64 0),(.int .u64 0)]:=by kernel_rfl
theorem SE:zeroO prog 26=some [(.slice none 0 0)]:=by kernel_rfl
theorem SF:zeroO prog 28=some [(.slice none 0 0)]:=by kernel_rfl
theorem SG:zeroO prog 29=some [(.int .i64 0)]:=by kernel_rfl
theorem Kh:zeroO prog 3=some [(.int .i64 0)]:=by kernel_rfl
theorem SH:zeroO prog 35=some [(.slice none 0 0)]:=by kernel_rfl
theorem XK:zeroO prog 4=some [(.bool false)]:=by kernel_rfl
theorem SI:zeroO prog 42=some [(.slice none 0 0)]:=by kernel_rfl
theorem o8:zeroO prog 65=some [(.bool false),(.slice none 0 0)]:=by kernel_rfl
theorem SJ:zeroO prog 75=some [(.int .i64 0),(.slice none 0 0)]:=by kernel_rfl
theorem SK:zeroO prog 76=some [(.slice none 0 0)]:=by kernel_rfl
theorem SL:zeroO prog 79=some [(.map none)]:=by kernel_rfl
theorem Ep:zeroO prog 85=some [(.slice none 0 0)]:=by kernel_rfl
theorem SM:zeroO prog 87=some [(.int .i64 0),(.slice none 0 0),(.slice none 0 0)]:=by kernel_rfl
theorem bZ:prog.follows .mixedOrders=true:=by kernel_rfl
def natV:List Nat->Nat
 |[]=>0
 |a::l=>a+4294967296*natV l
def Lmb (l:List Nat):Prop:= ∀a∈l,a<4294967296
def zJ (l:List Nat):Prop:=l.getLast?≠some 0
def dC:List Nat->List Nat
 |[]=>[]
 |a::l=>match dC l with
  |[]=>if a=0 then[]else[a]
  |b::m=>a::b::m
theorem yx (x y:List Nat):natV (x++y)=natV x+4294967296^x.length*natV y:=by
 induction x with
 |nil=>simp[natV]
 |cons a l b=>simp[natV,b,af3,ai9,agj,ahc,ahl]
theorem j9 (h:Lmb b):natV b<4294967296^b.length:=by
 induction b with
 |nil=>simp[natV]
 |cons a b f=>
  have g:=h a afM;have:=f (fun c e=>h c (afy _ e));grind [natV]
theorem Ro (l:List Nat):natV (dC l)=natV l:=by
 induction l with
 |nil=>rfl
 |cons a l b=>
  grind [dC,natV]
theorem W6 (l:List Nat):zJ (dC l):=by
 induction l with
 |nil=>simp[zJ,dC]
 |cons a l b=>
  grind [dC,zJ]
theorem W7 (l:List Nat):(dC l).length<=l.length:=by
 induction l with
 |nil=>simp[dC]
 |cons a l b=>
  grind [dC]
theorem Au {a:Nat} (h:zJ (a::b)):zJ b:=by
 grind [zJ]
theorem yI (h:zJ b):dC b=b:=by
 induction b with
 |nil=>rfl
 |cons a b c=>
  grind [dC,zJ]
theorem ko (l:List Nat):dC (l++[0])=dC l:=by
 induction l with
 |nil=>simp[dC]
 |cons a l b=>grind [dC]
theorem sU {a:Nat} (h:a≠0):dC (b++[a])=b++[a]:=yI (by simp[zJ,h])
theorem W8 (h:Lmb b):Lmb (dC b):=by
 induction b with
 |nil=>exact h
 |cons a b g=>
  have g:=g (fun e f=>h e (afy _ f));unfold dC;split
  ·split
   ·grind
   intro e f;simp at f;subst f;exact h _ afM
  rename_i e m n;rw[n]at g;intro c j;rcases afn.1 j with rfl|j
  ·exact h _ afM
  exact g c j
theorem ER (h:zJ b) (e:b≠[]):4294967296^(b.length-1)<=natV b:=by
 induction b with
 |nil=>grind
 |cons a b f=>
  cases b with
  |nil=>grind [zJ,natV]
  |cons c m=>
   grind [Au,natV]
theorem KU {k:Nat} (h:zJ b) (e:natV b<4294967296^k):b.length<=k:=by
 by_cases c:b=[]
 ·grind
 have:=ER h c;have f:4294967296^(b.length-1)<4294967296^k:=agd this e;grind [Nat.pow_lt_pow_iff_right]
theorem YB {m:List Nat} (n:Lmb b) (o:Lmb m) (g:zJ b) (j:zJ m) (h:natV b=natV m):b=m:=by
 induction b generalizing m with
 |nil=>
  cases m with
  |nil=>rfl
  |cons e m=>
   have:=ER j (by simp);grind [natV]
 |cons a b r=>
  cases m with
  |nil=>
   have:=ER g (by simp);grind [natV]
  |cons e m=>
   have s:=n a afM;have t:=o e afM;simp only[natV]at h;have p:a=e:=by omega
   have q:natV b=natV m:=by omega
   rw[p,r (fun c f=>n c (afy _ f)) (fun c f=>o c (afy _ f)) (Au g) (Au j) q]
def jd (neg:Bool) (n:Nat):Int:=if neg then -(n:Int)else n
theorem Q5 (a:Int) (w:World):
  Calls prog 224 #[.int .i64 a] w fun e w'=>e= .returned (.bool false)/\w=w':=by
 go_enter func224,ntmps224
 go_wp2
 go_ret
 simp
def tN (a b:Int):Int:=if a<b then -1 else if b<a then 1 else 0
theorem qR (a b:Int) (w:World):
  Calls prog 192 #[.int .i64 a,.int .i64 b] w fun e w'=>e= .returned (.int .i64 (tN a b))/\w=w':=by
 go_enter func192,ntmps192
 go_wp2_with (go_at_call 224;refine(Q5 _ _).mono ?_;rintro e w' ⟨rfl,rfl⟩)
 all_goals
  go_ret
  exact⟨lh (by grind [tN]),rfl⟩
def dZ:List Int->List Int->Int
 |[],[]=>0
 |[],_::_=> -1
 |_::_,[]=>1
 |a::x,b::y=>if a<b then -1 else if b<a then 1 else dZ x y
theorem Dq {k:Nat} {a:Int} (h:c[k]?=some a) (j:e[k]?=some x):
  dZ (c.drop k) (e.drop k)=if a<x then -1 else if x<a then 1 else dZ (c.drop (k+1)) (e.drop (k+1)):=by
 obtain⟨f,rfl⟩:=aeI.1 h;obtain⟨g,rfl⟩:=aeI.1 j;rw[agq f,agq g];rfl
theorem Dr {k:Nat} (b:k>=c.length) (f:k<e.length):dZ (c.drop k) (e.drop k)= -1:=by
 rw[agI b,agq f];rfl
theorem Ay {k:Nat} (b:k<c.length) (f:k>=e.length):dZ (c.drop k) (e.drop k)=1:=by
 rw[agI f,agq b];rfl
theorem Dp {k:Nat} (b:k>=c.length) (f:k>=e.length):dZ (c.drop k) (e.drop k)=0:=by
 rw[agI b,agI f];rfl
theorem YE {a:Int} (h:(tN a x !=0)=true):tN a x=if a<x then -1 else if x<a then 1 else y:=by
 grind [tN]
theorem YD {a:Int} (h:(tN a x !=0)=false):(if a<x then -1 else if x<a then 1 else y)=y:=by
 grind [tN]
theorem adZ {a:Int} (h:(a !=x)=true) (c:a<x): -1=if a<x then -1 else if x<a then 1 else y:=by simp[c]
theorem adY {a:Int} (h:(a !=x)=true) (c: ¬a<x):1=if a<x then -1 else if x<a then 1 else y:=by
 grind
theorem wm (A B:Option Addr) (c d:Nat) (x y:List Int) (w:World) (hx:RdI .i64 w A x) (hy:RdI .i64 w B y) (lx:x.length<=9223372036854775807) (ly:y.length<=9223372036854775807):
  Calls prog 225 #[.slice A x.length c,.slice B y.length d] w fun e w'=>e= .returned (.int .i64 (dZ x y))/\w=w':=by
 have HX:=aeV hx;have HY:=aeV hy;clear hx hy
 go_enter func225,ntmps225
 go_wp2_with fail
 go_loop [11,5,6,7,8] (fun i _ _ _ _=> ∃k:Nat,k<=x.length/\i= .int .i64 k/\Hid (dZ (x.drop k) (y.drop k)=dZ x y)) (fun i _ _ _ _=>x.length-(intOf i).toNat)
 case atStart=>grind [Lib.hid]
 case round=>
  obtain⟨k,hk,rfl,HR⟩:=hrel;by_cases hlt:k<x.length
  ·obtain⟨a,ha⟩:=getElem?_of_lt hlt;obtain⟨b,off,rfl,hc⟩:=HX.out.at_ ha;have HA:=aeV ha;clear ha;by_cases hly:k<y.length
   ·obtain⟨a',ha'⟩:=getElem?_of_lt hly;obtain⟨b',off',rfl,hc'⟩:=HY.out.at_ ha';have HA':=aeV ha';clear ha';have hD:=aeV (Dq HA.out HA'.out)
    go_wp2_with (go_at_call 192;refine(qR _ _ _).mono ?_;rintro e w' ⟨rfl,rfl⟩)
    ·go_ret
     have hne:(tN a a' !=0)=true:=by assumption
     exact⟨lh (by rw[<- HR.out,hD.out];exact YE hne),rfl⟩
    go_round
    case rel=>
     have he:(tN a a' !=0)=false:=by assumption
     exact⟨k+1,by omega,by go_num,aeV (by rw[<- HR.out,hD.out];simp_all[YD])⟩
    grind [intOf]
   go_wp2_with fail
   go_ret
   exact⟨lh (by rw[<- HR.out,Ay hlt (by omega)]),rfl⟩
  have hk':k=x.length:=by omega
  subst hk'
  go_wp2_with fail
  all_goals
   go_ret
   exact⟨lh (by rw[<- HR.out];grind [Dr,Dp]),rfl⟩
theorem rD (A B:Option Addr) (c d:Nat) (x y:List Int) (w:World) (hx:RdI .i64 w A x) (hy:RdI .i64 w B y) (lx:x.length<=9223372036854775807) (ly:y.length<=9223372036854775807):
  Calls prog 21 #[.slice A x.length c,.slice B y.length d] w fun e w'=>e= .returned (.int .i64 (dZ x y))/\ ∃n,w'=w.drewN n:=by
 have HX:=aeV hx;have HY:=aeV hy;clear hx hy
 go_enter func21,ntmps21
 go_wp2_with fail
 go_loopw [5] (fun i wr=> ∃k n:Nat,k<=x.length/\k<=y.length/\i= .int .i64 k/\wr=w.drewN n/\Hid (dZ (x.drop k) (y.drop k)=dZ x y)) (fun i _=>x.length-(intOf i).toNat)
 case atStart=>exact⟨0,0,afl _,afl _,rfl,rfl,aeV rfl⟩
 case round=>
  obtain⟨k,n,hk,hky,rfl,rfl,HR⟩:=hrel;by_cases hlt:k<x.length
  ·obtain⟨a,ha⟩:=getElem?_of_lt hlt;obtain⟨b,off,rfl,hc⟩:=HX.out.at_ ha;have HA:=aeV ha;clear ha;by_cases hly:k<y.length
   ·obtain⟨a',ha'⟩:=getElem?_of_lt hly;obtain⟨b',off',rfl,hc'⟩:=HY.out.at_ ha';have HA':=aeV ha';clear ha';have hD:=aeV (Dq HA.out HA'.out)
    go_wp2_with fail
    go_quiet (fail)
    go_wp2_with fail
    ·go_quiet (fail)
     have hne:(a !=a')=true:=by assumption
     go_wp2_with fail
     all_goals
      go_ret
      exact⟨lh (by rw[<- HR.out,hD.out];first|exact adZ hne (by omega)|exact adY hne (by omega)),_,by rw[World.drewN_drewN,World.drewN_drewN]⟩
    have he:(a !=a')=false:=by assumption
    go_roundw
    case rel=>exact⟨k+1,_,by omega,by omega,by go_num,rfl,aeV (by rw[<- HR.out,hD.out];grind)⟩
    grind [intOf]
   go_wp2_with fail
   all_goals
    go_ret
    exact⟨lh (by rw[<- HR.out,Ay hlt (by omega)]),_,rfl⟩
  by_cases hly:k<y.length
  ·go_wp2_with fail
   all_goals
    go_ret
    exact⟨lh (by rw[<- HR.out,Dr (by omega) (by omega)]),_,rfl⟩
  go_wp2_with fail
  all_goals
   go_ret
   exact⟨lh (by rw[<- HR.out,Dp (by omega) (by omega)]),_,rfl⟩
theorem CL (A B:Option Addr) (c d:Nat) (x y:List Int) (w:World) (hx:RdI .i64 w A x) (hy:RdI .i64 w B y) (lx:x.length<=9223372036854775807) (ly:y.length<=9223372036854775807):
  Calls prog 193 #[.slice A x.length c,.slice B y.length d] w fun e w'=>e= .returned (.int .i64 (dZ x y))/\w=w':=by
 go_enter func193,ntmps193
 go_wp2_with (go_at_call 225;refine(wm A B c d x y _ hx hy lx ly).mono ?_;rintro e w' ⟨rfl,rfl⟩)
 go_ret
 simp
end Go.Proofs.YtalmoejhjceflaaGreat
