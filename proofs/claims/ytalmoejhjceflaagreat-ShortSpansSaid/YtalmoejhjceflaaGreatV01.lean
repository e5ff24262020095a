/-
  Part 2 of a proof (walks and plain facts).
-/
import Derived.Test.YtalmoejhjceflaaGreatV00
import Derived.Laws.AppendOwn
import Derived.Maps.AppendAt
import Derived.Deep.OwnRows
import Derived.Orders
import Derived.ChangeKeysEq
import Derived.Laws.StructEq
set_option linter.all false
set_option maxRecDepth 100000
set_option maxHeartbeats 64000000
namespace Go.Proofs.YtalmoejhjceflaaGreat
open Go.RowKit
variable {b c:Nat->Prop} {w W:World} {e:Value} {h:TypeId}
inductive PV where
 |raw (v:Value)
 |sl (xs:List (List PV))
 |ptr (cs:List PV)
variable {n:PV}
inductive AV where
 |p (x:PV)
 |sl (a r off len:Nat)
 |ptr (a r i j:Nat)
 |junk
 |fn (f:FuncId) (a:Nat) (qs:List (Nat×Nat×Nat))
inductive TV where
 |one (x:AV)
 |agg (cs:List AV)
 |tup (ts:List (Bool×List AV))
 |fn (f:FuncId) (cs:List AV)
variable {m:TV}
structure OObj where
 ty:TypeId
 es:Nat
 elems:List (List AV)
abbrev OH:=Nat->List OObj
variable {j l:OH}
structure AS where
 tmps:List TV
 H:OH
inductive bS (X:Nat->Prop) (w:World):PV->Value->Prop
 |raw (v:Value) (h:v.oneCell'=true):bS X w (.raw v) v
 |nil (a:Option Addr) (c:Nat):bS X w (.sl []) (.slice a 0 c)
 |sl (b off es cap:Nat) (xs:List (List PV)) (f:Nat->Nat->Value) (hX: ¬X b) (hb:b<w.heap.size) (hes: ∀e∈xs,e.length=es) (hcap:xs.length<=cap) (hm:xs.length<=9223372036854775807)
   (hc: ∀(i:Nat) e (j:Nat) x,xs[i]?=some e->e[j]?=some x->w.cell? ⟨b,off+i*es+j,none⟩=some (f i j))
   (hr: ∀(i:Nat) e (j:Nat) x,xs[i]?=some e->e[j]?=some x->bS X w x (f i j)):bS X w (.sl xs) (.slice (some ⟨b,off,none⟩) xs.length cap)
 |ptr (b off:Nat) (cs:List PV) (f:Nat->Value) (hX: ¬X b) (hb:b<w.heap.size)
   (hc: ∀(j:Nat) x,cs[j]?=some x->w.cell? ⟨b,off+j,none⟩=some (f j))
   (hr: ∀(j:Nat) x,cs[j]?=some x->bS X w x (f j)):bS X w (.ptr cs) (.pointer (some ⟨b,off,none⟩))
theorem bS.one (h:bS b w n e):e.oneCell'=true:=by
 cases h<;>first|assumption|rfl
def NI (X:Nat->Prop) (w b:World):Prop:=w.heap.size<=b.heap.size/\ ∀p v,¬X p.block->w.cell? p=some v->b.cell? p=some v
theorem bS.stays (q:NI b w W) (h:bS b w n e):bS b W n e:=by
 induction h with
 |raw e h=>exact .raw e h
 |nil a c=>exact .nil a c
 |sl g m A cap E f o s u p C t D y=>exact .sl g m A cap E f o (aeT s q.1) u p C (fun i l j n r B=>q.2 _ _ o (t i l j n r B)) y
 |ptr g m z f o s t D y=>exact .ptr g m z f o (aeT s q.1) (fun j n r=>q.2 _ _ o (t j n r)) y
theorem bS.weaken (t: ∀g,g<w.heap.size->c g->b g) (h:bS b w n e):bS c w n e:=by
 induction h with
 |raw e h=>exact .raw e h
 |nil a j=>exact .nil a j
 |sl g l y cap B f p m r o z q A s=>exact .sl g l y cap B f (fun h=>p (t _ m h)) m r o z q s
 |ptr g l u f p m q A s=>exact .ptr g l u f (fun h=>p (t _ m h)) m q s
abbrev Rho:=Nat->Nat->Option (Nat×Nat)
variable {f g:Rho}
def Xo (X:Nat->Prop) (e:Rho) (H:OH):Nat->Prop:=fun b=>X b\/ ∃(a r:Nat) (o:OObj) (c:Nat),(H a)[r]?=some o/\e a r=some (b,c)
def AV.rel (g:Rho) (H:OH) (X:Nat->Prop) (w:World):AV->Value->Prop
 | .p x,v=>bS X w x v
 | .sl a r e len,v=> ∃o,(H a)[r]?=some o/\e+len<=o.elems.length/\
   ((g a r=none/\v= .slice none 0 0/\len=0/\e=0)\/ ∃b c cap,g a r=some (b,c)/\v= .slice (some ⟨b,e*o.es,none⟩) len cap/\len<=cap/\(a<=4999->cap=c-e))
 | .ptr a r i j,v=> ∃o b c,(H a)[r]?=some o/\g a r=some (b,c)/\i<o.elems.length/\v= .pointer (some ⟨b,i*o.es+j,none⟩)
 | .junk,_=>True
 | .fn f a h,v=> ∃vs:Array Value,v= .func (.func f) #[] vs/\vs.size=h.length/\0<h.length/\ ∀(n:Nat) q,h[n]?=some q-> ∃u:Value,vs[n]?=some u/\
   ∃o b c,(H a)[q.1]?=some o/\g a q.1=some (b,c)/\q.2.1<o.elems.length/\u= .pointer (some ⟨b,q.2.1*o.es+q.2.2,none⟩)
def I7:AV->Bool
 | .fn ..=>false
 |_=>true
def s8 (g:AV->AV):Prop:= ∀f a e,g (.fn f a e)= .junk\/ ∃h b,g (.fn f a e)= .fn f h b/\b.length=e.length/\ ∀(n:Nat) q,e[n]?=some q-> ∃c,b[n]?=some c/\g (.ptr a q.1 q.2.1 q.2.2)= .ptr h c.1 c.2.1 c.2.2
theorem oz {c:AV->Prop} (E: ∀m a p r i o,c (.fn m a p)->c (.ptr a r i o)) {g:AV->AV} (F:s8 g) {q:Rho} {t:Nat->Prop} (h: ∀x v,I7 x=true->c x->AV.rel f j b w x v->AV.rel q l t W (g x) v) (x:AV) (v:Value) (y:c x) (k:AV.rel f j b w x v):AV.rel q l t W (g x) v:=by
 cases x with
 |fn m a p=>
  rcases F m a p with e|⟨N,K,e,G,J⟩
  ·rw[e];trivial
  rw[e];obtain⟨vs,B,C,O,D⟩:=k;refine⟨vs,B,C.trans G.symm,by omega,fun n P z=>?_⟩;have I:=(aeI.1 z).1;obtain⟨Q,s,A⟩:=J n p[n] (aeR (by omega));rw[z]at s;injection s with s
  subst s;obtain⟨u,L,M⟩:=D n p[n] (aeR (by omega));have:=h (.ptr a p[n].1 p[n].2.1 p[n].2.2) u rfl (E m a p _ _ _ y) M;rw[A]at this;exact⟨u,L,this⟩
 |_=>exact h _ v rfl y k
theorem kW {e:AV->AV} (n:s8 e) {m:Nat->Prop} (h: ∀x v,I7 x=true->AV.rel f j b w x v->AV.rel g l m W (e x) v) (x:AV) (v:Value) (k:AV.rel f j b w x v):AV.rel g l m W (e x) v:=
 oz (c:=fun _=>True) (fun _ _ _ _ _ _ h=>h) n (fun x v o _ k=>h x v o k) x v trivial k
theorem vu:s8 id:=fun f a c=> .inr ⟨a,c,rfl,rfl,fun n q b=>⟨q,b,rfl⟩⟩
theorem uR (h: ∀x v,I7 x=true->AV.rel f j b w x v->AV.rel g l c W x v) (x:AV) (v:Value) (k:AV.rel f j b w x v):AV.rel g l c W x v:=kW vu h x v k
theorem Cj {a a' r r' g len j:Nat} {ρ':Rho} (l:a<=4999) (h:(f a r=none/\e= .slice none 0 0/\len=0/\g=0)\/ ∃b c cap,f a r=some (b,c)/\e= .slice (some ⟨b,g*j,none⟩) len cap/\len<=cap/\(a<=4999->cap=c-g)) (m:ρ' a' r'=f a r):
  (ρ' a' r'=none/\e= .slice none 0 0/\len=0/\g=0)\/ ∃b c cap,ρ' a' r'=some (b,c)/\e= .slice (some ⟨b,g*j,none⟩) len cap/\len<=cap/\(a'<=4999->cap=c-g):=by
 grind
def dK (c:Rho) (H:OH) (X:Nat->Prop) (w:World) (b:List AV) (v:Value):Prop:=
 ∃vs:Array Value,v= .agg vs/\vs.size=b.length/\ ∀(j:Nat) x,b[j]?=some x-> ∃u:Value,vs[j]?=some u/\u.oneCell'=true/\x.rel c H X w u
def aet (f:FuncId):Value->Value
 | .agg vs=> .func (.func f) #[] vs
 |v=>v
def TV.rel (e:Rho) (H:OH) (X:Nat->Prop) (w:World):TV->Value->Prop
 | .one x,v=>x.rel e H X w v
 | .agg c,v=>dK e H X w c v
 | .tup g,v=> ∃vs:Array Value,v= .tuple vs/\vs.size=g.length/\ ∀(j:Nat) b c,g[j]?=some (b,c)-> ∃u:Value,vs[j]?=some u/\
   ((b=true/\dK e H X w c u)\/(b=false/\ ∃x,c=[x]/\x.rel e H X w u))
 | .fn f c,v=> ∃u,dK e H X w c u/\v=aet f u
def objRel (f:Rho) (H:OH) (X:Nat->Prop) (w:World) (a r:Nat) (o:OObj):Prop:=
 (∀e∈o.elems,e.length=o.es)/\0<o.es/\
 match f a r with
 |none=>o.elems=[]
 |some (b,c)=> ∃cells,w.heap[b]?=some (.cells cells o.ty (0,0))/\cells.size=c*o.es/\o.elems.length<=c/\c<=9223372036854775807/\
   ∀(i:Nat) e (j:Nat) x,o.elems[i]?=some e->e[j]?=some x-> ∃v:Value,cells[i*o.es+j]?=some v/\v.oneCell'=true/\x.rel f H X w v
structure Keep (O:Nat->Prop) (w0 w:World):Prop where
 os:w.os=w0.os
 tape:w.tape=w0.tape
 output:w.output=w0.output
 size:w0.heap.size<=w.heap.size
 block: ∀k,k<w0.heap.size-> ¬O k->w.heap[k]?=w0.heap[k]?
def bJ (a:Nat):AV->Prop
 | .sl b _ _ _=>b=a
 | .ptr b _ _ _=>b=a
 | .fn _ b c=>b=a/\c≠[]
 |_=>True
def selfO (a:Nat) (o:OObj):Prop:= ∀e∈o.elems,∀x∈e,bJ a x
structure Inv (w0:World) (O X:Nat->Prop) (H:OH) (ρ:Rho) (w:World):Prop where
 keep:Keep O w0 w
 objs: ∀(a r:Nat) (o:OObj),(H a)[r]?=some o->objRel ρ H (Xo X ρ H) w a r o
 inj: ∀(a r a' r':Nat) (o o':OObj) (b c c':Nat),(H a)[r]?=some o->(H a')[r']?=some o'->ρ a r=some (b,c)->ρ a' r'=some (b,c')->a=a'/\r=r'
 old: ∀(a r:Nat) (o:OObj) (b c:Nat),(H a)[r]?=some o->ρ a r=some (b,c)->(w0.heap.size<=b\/O b)/\ ¬X b
 bar: ∀b,X b->b<w.heap.size
 self: ∀(a r:Nat) (o:OObj),(H a)[r]?=some o->selfO a o
def dP (c:World) (O X:Nat->Prop) (s:AS) (a:Act) (w:World):Prop:=
 a.defers=[]/\a.tmps.size=s.tmps.length/\ ∃b,Inv c O X s.H b w/\
  ∀(t:Nat) x,s.tmps[t]?=some x-> ∃v:Value,a.tmps[t]?=some v/\x.rel b s.H (Xo X b s.H) w v
def szO (P:Program) (t:TypeId):Option Nat:=(P.info? t).map (·.size)
def byO (P:Program) (t:TypeId):Option Nat:=(P.info? t).map (·.bytes)
def zeroO (P:Program) (t:TypeId):Option (List Value):=((P.info? t).bind (·.zero)).map (·.cells.toList)
def iI (P:Program) (t:TypeId):Option Bool:=(P.underlying t).map fun| .struct _=>true| .array _ _=>true|_=>false
def sliceO (P:Program) (t:TypeId):Option TypeId:=(P.underlying t).bind fun| .slice e=>some e|_=>none
def tI (P:Program) (t:TypeId):Option (Nat×TypeId):=(P.underlying t).bind fun| .array n e=>some (n,e)|_=>none
def CZ (P:Program) (t:TypeId):Option IntKind:=(P.underlying t).bind fun| .int k=>some k|_=>none
def As (P:Program) (t:TypeId):Bool:=match P.underlying t with|some .bool=>true|_=>false
def dr (P:Program) (t:TypeId) (f:Nat):Option (Nat×TypeId):=(P.underlying t).bind fun| .struct b=>(b[f]?).map fun d=>(d.offset,d.type)|_=>none
abbrev AV.raw (v:Value):AV:= .p (.raw v)
abbrev TV.raw (v:Value):TV:= .one (.p (.raw v))
abbrev TV.undef:TV:= .tup []
def nI:Value->TV
 | .agg b=>if b.toList.all (·.oneCell')then .agg (b.toList.map AV.raw)else .one .junk
 |v=>if v.oneCell' then .raw v else .one .junk
def AS.ev (s:AS):Operand->Option TV
 | .tmp t=>s.tmps[t]?
 | .const v=>some (nI v)
 | .global g=>some (.raw (.pointer (some ⟨g,0,none⟩)))
 | .func f=>some (.raw (.func (.func f) #[] #[]))
def AS.put (s:AS) (d:Option Tmp) (t:TV):AS:=
 match d with
 |some d=>{s with tmps:=s.tmps.set d t}
 |none=>s
def nJ (P:Program) (t:TypeId) (b:List AV):Option TV:=
 match szO P t,iI P t with
 |some n,some true=>if n<=b.length then some (.agg (b.take n))else none
 |some _,some false=>match b with
  |x::_=>some (.one x)
  |[]=>none
 |_,_=>none
def Dx (e:Bool):BinOp->Value->Value->Option Value
 | .add,.int k a,.int c b=>if k=c then some (.int k (k.wrap (a+b)))else none
 | .sub,.int k a,.int c b=>if k=c then some (.int k (k.wrap (a-b)))else none
 | .mul,.int k a,.int c b=>if k=c then some (.int k (k.wrap (a*b)))else none
 | .quo,.int k a,.int c b=>if k=c/\b≠0 then some (.int k (k.wrap (a.tdiv b)))else none
 | .rem,.int k a,.int c b=>if k=c/\b≠0 then some (.int k (a.tmod b))else none
 | .shl,.int k a,.int _ b=>if 0<=b then some (.int k (k.wrap (a*2^(min b.toNat k.bits))))else none
 | .shr,.int k a,.int _ b=>if 0<=b then some (.int k (a.fdiv (2^(min b.toNat k.bits))))else none
 | .and,.int k a,.int c b=>if k=c then some (.int k (k.wrap ((BitVec.ofInt k.bits a&&&BitVec.ofInt k.bits b).toNat:Int)))else none
 | .or,.int k a,.int c b=>if k=c then some (.int k (k.wrap ((BitVec.ofInt k.bits a|||BitVec.ofInt k.bits b).toNat:Int)))else none
 | .xor,.int k a,.int c b=>if k=c then some (.int k (k.wrap ((BitVec.ofInt k.bits a^^^BitVec.ofInt k.bits b).toNat:Int)))else none
 | .andNot,.int k a,.int c b=>if k=c then some (.int k (k.wrap ((BitVec.ofInt k.bits a&&& ~~~BitVec.ofInt k.bits b).toNat:Int)))else none
 | .eql,.int k a,.int c b=>if k=c then some (.bool (decide (a=b)))else none
 | .neq,.int k a,.int c b=>if k=c then some (.bool (!decide (a=b)))else none
 | .lss,.int k a,.int c b=>if k=c then some (.bool (decide (a<b)))else none
 | .leq,.int k a,.int c b=>if k=c then some (.bool (decide (a<=b)))else none
 | .gtr,.int k a,.int c b=>if k=c then some (.bool (decide (b<a)))else none
 | .geq,.int k a,.int c b=>if k=c then some (.bool (decide (b<=a)))else none
 | .eql,.bool a,.bool b=>if e=true then some (.bool (a==b))else none
 | .neq,.bool a,.bool b=>if e=true then some (.bool (!(a==b)))else none
 |_,_,_=>none
def KO (P:Program) (t:TypeId):Option Nat:=match tI P t with
 |some (n,e)=>if CZ P e≠none/\iI P e=some false/\szO P e=some 1/\P.eqGuardType P.depth t=false then some n else none
 |none=>none
def UB:List AV->List AV->Option Bool
 |[],[]=>some true
 | .p (.raw (.int k a))::f,.p (.raw (.int e b))::g=>match UB f g with
  |some c=>if k=e then some (decide (a=b)&&c)else none
  |none=>none
 |_,_=>none
def Iv (P:Program) (op:BinOp) (t:TypeId) (c e:List AV):Option TV:=match KO P t,UB c e,op with
 |some n,some b,.eql=>if c.length=n then some (.raw (.bool b))else none
 |some n,some b,.neq=>if c.length=n then some (.raw (.bool !b))else none
 |_,_,_=>none
def QR:UnOp->Value->Option Value
 | .neg,.int k n=>some (.int k (k.wrap (0-n)))
 | .not,.bool b=>some (.bool !b)
 |_,_=>none
def Lu:Operand->Bool
 | .const (.slice none _ _)=>true
 |_=>false
def Bq:TV->Option Bool
 | .one (.p (.raw (.slice none _ _)))=>some true
 | .one (.p (.sl (_::_)))=>some false
 |_=>none
def DS (P:Program) (op:BinOp) (t:TypeId) (x y:Option TV):Option TV:=match sliceO P t,x.bind Bq,y.bind Bq,op with
 |some _,some b,some true,.eql=>some (.raw (.bool b))
 |some _,some b,some true,.neq=>some (.raw (.bool !b))
 |_,_,_,_=>none
def Vx (f:Int->Int->Int):List (Option TV)->Option TV
 |[some (.one (.p (.raw (.int k a)))),some (.one (.p (.raw (.int _ b))))]=>some (.raw (.int k (f a b)))
 |_=>none
def mmC (ev:Operand->Option TV) (c:Call):Option TV:=match c.callee with
 | .builtin .max=>Vx (fun a b=>if b>a then b else a) (c.args.toList.map ev)
 | .builtin .min=>Vx (fun a b=>if b<a then b else a) (c.args.toList.map ev)
 |_=>none
def Y6:Callee->Bool
 | .builtin .max| .builtin .min=>true
 |_=>false
def kH (P:Program) (ev:Operand->Option TV):Op->Option TV
 | .move x=>ev x
 | .assign x=>ev x
 | .pick c a b=>match ev c with
  |some (.one (.p (.raw (.bool true))))=>ev a
  |some (.one (.p (.raw (.bool false))))=>ev b
  |_=>none
 | .binOp op t x y _=>if Lu y=true then DS P op t (ev x) (ev y)else match ev x,ev y with
  |some (.one (.p (.raw a))),some (.one (.p (.raw b)))=>(Dx (As P t) op a b).map TV.raw
  |some (.agg g),some (.agg h)=>Iv P op t g h
  |_,_=>none
 | .unOp op _ x=>match ev x with
  |some (.one (.p (.raw a)))=>(QR op a).map TV.raw
  |_=>none
 | .convert src dst x=>match ev x,P.underlying src,CZ P dst with
  |some (.one (.p (.raw (.int _ n)))),some _,some k=>some (.raw (.int k (k.wrap n)))
  |_,_,_=>none
 | .extract t i=>match ev t with
  |some (.tup f)=>match f[i]? with
   |some (true,e)=>some (.agg e)
   |some (false,[x])=>some (.one x)
   |_=>none
  |_=>none
 | .call c=>mmC ev c
 |_=>none
def qp:Op->Bool
 | .call c=>Y6 c.callee
 | .move _| .assign _| .pick ..| .binOp ..| .unOp ..| .convert ..| .extract ..=>true
 |_=>false
def DP (z:Int):Option Nat:=if 0<=z then some z.toNat else none
def fQ (ev:Operand->Option TV):Option Operand->Nat->Option Nat
 |none,d=>some d
 |some x,_=>match ev x with
  |some (.one (.p (.raw (.int _ n))))=>DP n
  |_=>none
def cellsOf:TV->Option (List AV)
 | .one (.p x)=>some [.p x]
 | .one (.sl a r b len)=>some [.sl a r b len]
 | .agg c=>some c
 |_=>none
def iv (P:Program) (t:TypeId):Option (List (Nat×Nat)):=(P.underlying t).bind fun| .struct b=>b.toList.mapM (fun f=>(P.info? f.type).map fun i=>(f.offset,i.size))| .array _ e=>(P.info? e).map fun _=>[]|_=>none
def mR (e:List (Nat×Nat)) (ev:Operand->Option TV):List AV->List (Nat×Operand)->Option (List AV)
 |cs,[]=>some cs
 |cs,(f,x)::c=>match e[f]?,(ev x).bind cellsOf with
  |some (b,n),some g=>if g.length=n/\b+n<=cs.length then mR e ev (cs.take b++g++cs.drop (b+n)) c else none
  |_,_=>none
def gy (ev:Operand->Option TV):List Operand->Option (List TV)
 |[]=>some []
 |x::l=>match ev x,gy ev l with
  |some t,some b=>some (t::b)
  |_,_=>none
def lB:List TV->Option (List AV)
 |[]=>some []
 | .one .junk::_=>none
 | .one x::l=>match lB l with
  |some b=>some (x::b)
  |none=>none
 |_::_=>none
def od (a:Nat):List AV->Option (List (Nat×Nat×Nat))
 |[]=>some []
 | .ptr b r i j::l=>if b=a then(od a l).map ((r,i,j):: ·)else none
 |_=>none
def KS:Option TV->Option (FuncId×List TV)
 |some (.fn f c)=>some (f,c.map TV.one)
 |some (.one (.fn f a e))=>some (f,e.map fun q=>TV.one (.ptr a q.1 q.2.1 q.2.2))
 |some (.one (.p (.raw (.func (.func f) first b))))=>if first.isEmpty&&b.isEmpty then some (f,[])else none
 |_=>none
def b9 (P:Program) (ev:Operand->Option TV) (H:OH):Op->Option TV
 | .load t a=>match ev a with
  |some (.one (.p (.ptr s)))=>nJ P t (s.map AV.p)
  |some (.one (.ptr a r i j))=>match(H a)[r]? with
   |some o=>match o.elems[i]? with
    |some e=>nJ P t (e.drop j)
    |none=>none
   |none=>none
  |_=>none
 | .indexAddr t x A=>match ev A with
  |some (.one (.p (.raw (.int _ n))))=>match DP n with
   |none=>none
   |some i=>match sliceO P t,ev x with
    |some e,some (.one (.p (.sl u)))=>match u[i]? with
     |some c=>if szO P e=some c.length then some (.one (.p (.ptr c)))else none
     |none=>none
    |some e,some (.one (.sl a r g len))=>match(H a)[r]? with
     |some o=>if szO P e=some o.es/\i<len then some (.one (.ptr a r (g+i) 0))else none
     |none=>none
    |none,some (.one (.p (.ptr s)))=>match tI P t with
     |some (n,e)=>match szO P e with
      |some sz=>if i<n then some (.one (.p (.ptr (s.drop (i*sz)))))else none
      |none=>none
     |none=>none
    |none,some (.one (.ptr a r k j))=>match tI P t with
     |some (n,e)=>match szO P e with
      |some sz=>if i<n then some (.one (.ptr a r k (j+i*sz)))else none
      |none=>none
     |none=>none
    |none,some (.one (.p (.raw (.pointer (some ⟨b,g,none⟩)))))=>match tI P t with
     |some (n,e)=>match szO P e with
      |some sz=>if i<n then some (.one (.p (.raw (.pointer (some ⟨b,g+i*sz,none⟩)))))else none
      |none=>none
     |none=>none
    |_,_=>none
  |_=>none
 | .fieldAddr t x f=>match dr P t f,ev x with
  |some (g,v),some (.one (.p (.ptr s)))=>match szO P v with
   |some (_+1)=>some (.one (.p (.ptr (s.drop g))))
   |_=>none
  |some (g,v),some (.one (.ptr a r i j))=>match szO P v with
   |some (_+1)=>some (.one (.ptr a r i (j+g)))
   |_=>none
  |_,_=>none
 | .field t x f=>match dr P t f,ev x with
  |some (g,v),some (.agg s)=>nJ P v (s.drop g)
  |_,_=>none
 | .index t x A=>match ev A with
  |some (.one (.p (.raw (.int _ n))))=>match DP n with
   |none=>none
   |some i=>match tI P t,ev x with
    |some (m,e),some (.agg s)=>match szO P e with
     |some sz=>if i<m then nJ P e (s.drop (i*sz))else none
     |none=>none
    |_,_=>none
  |_=>none
 | .slice t x (some y) (some w) (some B)=>match sliceO P t,ev x with
  |some e,some (.one (.sl a r g len))=>match fQ ev (some y) 0,fQ ev (some w) 0,fQ ev (some B) 0,(H a)[r]? with
   |some l,some h,some m,some o=>if szO P e=some o.es/\l<h/\h<=m/\m<=len/\5000<=a then some (.one (.sl a r (g+l) (h-l)))else none
   |_,_,_,_=>none
  |_,_=>none
 | .slice t x y w none=>match sliceO P t,ev x with
  |some e,some (.one (.p (.sl u)))=>match fQ ev y 0,fQ ev w u.length,szO P e with
   |some l,some h,some n=>if l<=h/\h<=u.length/\ ∀c∈u,c.length=n then some (.one (.p (.sl ((u.take h).drop l))))else none
   |_,_,_=>none
  |some e,some (.one (.sl a r g len))=>match fQ ev y 0,fQ ev w len,(H a)[r]? with
   |some l,some h,some o=>if szO P e=some o.es/\l<h/\h<=len then some (.one (.sl a r (g+l) (h-l)))else if szO P e=some o.es/\l=h/\h<=len then some (.one (.p (.sl [])))else none
   |_,_,_=>none
  |_,_=>none
 | .build t parts=>match zeroO P t,iv P t with
  |some z,some C=>if z.all (·.oneCell')then(mR C ev (z.map AV.raw) parts.toList).map TV.agg else none
  |_,_=>none
 | .nilCheck x=>match ev x with
  |some (.one (.p (.ptr s)))=>some (.one (.p (.ptr s)))
  |some (.one (.ptr a r i j))=>some (.one (.ptr a r i j))
  |_=>none
 | .makeFunc (.func f) first q=>if first.isEmpty then((gy ev q.toList).bind lB).map (TV.fn f)else none
 | .call {callee:= .builtin .len,args,argTypes}=>match args.toList,argTypes.toList with
  |[x],[t]=>match sliceO P t,ev x with
   |some _,some (.one (.p (.sl u)))=>some (.raw (.int .i64 u.length))
   |some _,some (.one (.sl _ _ _ len))=>some (.raw (.int .i64 len))
   |some _,some (.one (.p (.raw (.slice _ n _))))=>some (.raw (.int .i64 n))
   |_,_=>none
  |_,_=>none
 |_=>none
def A7:Op->Bool
 | .load ..| .indexAddr ..| .fieldAddr ..| .field ..| .index ..| .slice ..| .build ..| .nilCheck ..| .makeFunc ..| .call {callee:= .builtin .len,..}=>true
 |_=>false
def isPure:AV->Bool
 | .p _=>true
 |_=>false
def unP:AV->PV
 | .p x=>x
 |_=> .raw undef
def dA (d:Nat):AV->AV
 | .sl _ r b len=> .sl d r b len
 | .ptr _ r i j=> .ptr d r i j
 | .fn f _ c=>if c.isEmpty then .junk else .fn f d c
 |x=>x
theorem xx (d:Nat):s8 (dA d):=fun _ _ c=>by
 cases c with
 |nil=>exact .inl rfl
 |cons q l=>exact .inr ⟨d,q::l,rfl,rfl,fun _ q b=>⟨q,b,rfl⟩⟩
theorem gk (d:Nat) (x:AV):bJ d (dA d x):=by
 cases x with
 |fn f a b=>cases b with
  |nil=>trivial
  |cons q l=>exact⟨rfl,by simp⟩
 |_=>first|rfl|trivial
theorem Qv {d:Nat} (h: ∀x v,I7 x=true->bJ 0 x->AV.rel f j b w (dA d x) v->AV.rel g l c W x v) (x:AV) (v:Value) (o:bJ 0 x) (k:AV.rel f j b w (dA d x) v):AV.rel g l c W x v:=by
 cases x with
 |fn e a z=>
  cases z with
  |nil=>exact absurd rfl o.2
  |cons C m=>
  obtain⟨vs,r,s,p,t⟩:=k;refine⟨vs,r,s,p,fun n q y=>?_⟩;obtain⟨u,A,B⟩:=t n q y;exact⟨u,A,h (.ptr a q.1 q.2.1 q.2.2) u rfl o.1 B⟩
 |_=>exact h _ v rfl o k
def renTV (d:Nat):TV->TV
 | .one x=> .one (dA d x)
 | .agg b=> .agg (b.map (dA d))
 | .tup c=> .tup (c.map fun t=>(t.1,t.2.map (dA d)))
 | .fn f b=> .fn f (b.map (dA d))
def renO (d:Nat) (o:OObj):OObj:={o with elems:=o.elems.map (List.map (dA d))}
def famH (d:Nat) (F:List OObj):OH:=fun a=>if a=d then F else[]
def aK (H:OH) (d:Nat) (F:List OObj):OH:=fun a=>if a=d then F else H a
def aY (k:Nat->Nat->Bool):AV->AV
 | .sl a r b len=>if k a r then .junk else .sl a r b len
 | .ptr a r i j=>if k a r then .junk else .ptr a r i j
 | .fn f a c=>if c.any (fun q=>k a q.1)then .junk else .fn f a c
 |x=>x
theorem t7 (k:Nat->Nat->Bool):s8 (aY k):=fun f a b=>by
 grind [aY]
def bi (k:Nat->Nat->Bool):TV->TV
 | .one x=> .one (aY k x)
 | .agg b=> .agg (b.map (aY k))
 | .tup c=> .tup (c.map fun t=>(t.1,t.2.map (aY k)))
 | .fn f b=> .fn f (b.map (aY k))
def oI (k:Nat->Nat->Bool) (o:OObj):OObj:={o with elems:=o.elems.map (List.map (aY k))}
structure CallRes where
 fam:List OObj
 r:TV
def callable (P:Program) (f:FuncId):Bool:=match P.funcs[f]? with
 | some fn => fn.body.isSome && !(fn.name == "runtime.NumGoroutine")
 |none=>false
def CallC (P:Program) (f:FuncId) (args:List TV) (res:CallRes):Prop:=
 callable P f=true/\ ∀(X:Nat->Prop) (w:World) (vs:Array Value),(∀b,X b->b<w.heap.size)->vs.size=args.length->
  (∀(j:Nat) t,args[j]?=some t-> ∃v:Value,vs[j]?=some v/\t.rel (fun _ _=>none) (fun _=>[]) X w v)->
  Calls P f vs w fun e g=> ∃v,e= .returned v/\ ∃c:Rho,
   Inv w (fun _=>False) X (famH 0 res.fam) c g/\res.r.rel c (famH 0 res.fam) (Xo X c (famH 0 res.fam)) g v
def vR:AV->Bool
 | .p (.raw _)=>true
 |_=>false
def te:TV->Bool
 | .one x=>vR x
 | .agg b=>b.all vR
 | .tup c=>c.all fun t=>t.2.all vR
 | .fn _ b=>b.all vR
def CallRes.plain (res:CallRes):Bool:=res.fam.isEmpty&&te res.r
def iu:AV->Bool
 | .sl ..=>false
 | .ptr ..=>false
 | .fn ..=>false
 |_=>true
def noRefTV:TV->Bool
 | .one x=>iu x
 | .agg b=>b.all iu
 | .tup c=>c.all fun t=>t.2.all iu
 | .fn _ b=>b.all iu
structure dD (P:Program) where
 i:Nat
 f:FuncId
 args:List TV
 res:CallRes
structure ar (P:Program) where
 i:Nat
 f:FuncId
 args:List TV
 res:CallRes
 h:CallC P f args res
def ar.a {P:Program} (b:ar P):dD P:=⟨b.i,b.f,b.args,b.res⟩
def l9 (P:Program) (b:List (dD P)):Prop:= ∀c∈b,CallC P c.f c.args c.res
theorem ar.ok {P:Program} (b:List (ar P)):l9 P (b.map ar.a):=fun e c=>by
 obtain⟨x,_,rfl⟩:=aeL.1 c;exact x.h
def ms (H:OH):TV->TV
 | .one (.sl a r b len)=>match(H a)[r]? with
  |some o=> .one (.p (.sl ((((o.elems.take (b+len)).drop b)).map (List.map unP))))
  |none=> .one .junk
 | .one (.p (.raw (.slice none 0 0)))=> .one (.p (.sl []))
 |t=>t
def jj (own:Bool) (H:OH):TV->Bool
 | .one (.sl a r _ _)=>own&&match(H a)[r]? with
  |some o=>o.elems.all fun e=>e.all isPure
  |none=>false
 | .one (.p _)=>true
 | .agg b=>b.all isPure
 | .fn _ b=>b.all isPure
 |_=>false
def newsOf (H:OH):TV->Option (List (List AV))
 | .one (.p (.sl c))=>some (c.map (List.map AV.p))
 | .one (.p (.raw (.slice none 0 0)))=>some []
 | .one (.sl a r b len)=>match(H a)[r]? with
  |some o=>if o.elems.all fun e=>e.all isPure then some ((o.elems.take (b+len)).drop b)else none
  |none=>none
 |_=>none
def tX (ev:Operand->Option TV) (n:Nat):Nat->List (Nat×Operand)->Option (List (List AV))
 |_,[]=>some []
 |i,(k,x)::b=>match(ev x).bind cellsOf,tX ev n (i+1) b with
  |some c,some l=>if k=i/\c.length=n/\c.all isPure then some (c::l)else none
  |_,_=>none
open Classical in
noncomputable def dM (P:Program) (j:List (dD P)) (v:List Nat) (i d:Nat) (ev:Operand->Option TV) (H:OH):Op->Option (TV×List OObj)
 | .box e x=>match(ev x).bind cellsOf with
  |some u=>if u.all isPure/\0<u.length then some (.one (.ptr d 0 0 0),[⟨e,u.length,[u]⟩])else none
  |none=>none
 | .alloc e=>match zeroO P e with
  |some z=>if z.all (·.oneCell')/\0<z.length then some (.one (.ptr d 0 0 0),[⟨e,z.length,[z.map AV.raw]⟩])else none
  |none=>none
 | .makeSlice t l c=>match ev l,ev c,sliceO P t with
  |some (.one (.p (.raw (.int _ n)))),some (.one (.p (.raw (.int _ m)))),some e=>match zeroO P e,szO P e,byO P e with
   |some z,some sz,some o=>if 0<=n/\n<=m/\m<=9223372036854775807/\(o:Int)*m<=281474976710656/\z.length=sz/\0<sz/\z.all (·.oneCell')then
     some (.one (.sl d 0 0 n.toNat),[⟨e,sz,List.replicate n.toNat (z.map AV.raw)⟩])else none
   |_,_,_=>none
  |_,_,_=>none
 | .buildSlice t n parts=>match sliceO P t with
  |some e=>match zeroO P e,szO P e with
   |some z,some sz=>match tX ev sz 0 parts.toList with
    |some l=>if l.length=n/\n*sz<=16777216/\z.length=sz/\0<sz then
      if v.contains d then some (.one (.sl d 0 0 n),[⟨e,sz,l⟩])else some (.one (.p (.sl (l.map (List.map unP)))),[])else none
    |none=>none
   |_,_=>none
  |none=>none
 | .call c=>match c.callee with
  | .value (.func f)=>match j.find? (·.i==i),gy ev c.args.toList with
   |some g,some q=>if g.f=f/\q.map (ms H)=g.args/\q.all (jj g.res.plain H)/\(!g.res.fam.isEmpty||noRefTV g.res.r)then some (renTV d g.res.r,g.res.fam.map (renO d))else none
   |_,_=>none
  | .value (.tmp k)=>match KS (ev (.tmp k)),j.find? (·.i==i),gy ev c.args.toList with
   |some (f,h),some g,some q=>if g.f=f/\(q++h).map (ms H)=g.args/\(q++h).all (jj g.res.plain H)/\(!g.res.fam.isEmpty||noRefTV g.res.r)then some (renTV d g.res.r,g.res.fam.map (renO d))else none
   |_,_,_=>none
  | .builtin .append=>match c.args.toList,c.argTypes.toList with
   |[s,x],[t,w]=>match ev s,(ev x).bind (newsOf H),sliceO P t with
    |some (.one (.p (.raw (.slice none 0 0)))),some b,some e=>match zeroO P e,szO P e,byO P e with
     |some z,some sz,some o=>if t=w/\b.length*o<=140737488355328/\b.length<=9223372036854775807/\z.length=sz/\0<sz/\(∀e∈b,e.length=sz)then
       some (.one (.sl d 0 0 b.length),[⟨e,sz,b⟩])else none
     |_,_,_=>none
    |_,_,_=>none
   |_,_=>none
  |_=>none
 |_=>none
def putCells (e:List AV) (j:Nat) (b:List AV):List AV:=e.take j++b++e.drop (j+b.length)
def Zw (a:Nat):AV->Bool
 | .p _=>true
 | .sl b _ _ _=>b==a
 |_=>false
structure Kr where
 t:TV
 H:OH
 k:Nat->Nat->Bool
def iY (P:Program) (ev:Operand->Option TV) (H:OH):Op->Option Kr
 | .store t a x=>match ev a,szO P t with
  |some (.one (.ptr a r i j)),some n=>match(H a)[r]? with
   |some o=>match o.elems[i]? with
    |some e=>match ev x with
     |some (.one (.sl h u g len))=>
      if h=a then
       if n=1/\j<e.length then some ⟨.undef,aK H a ((H a).set r {o with elems:=o.elems.set i (putCells e j [.sl h u g len])}),fun _ _=>false⟩else none
      else match H h with
       |[p]=>if h<=4999/\u=0/\g=0/\len=p.elems.length/\n=1/\j<e.length/\p.elems.all (fun e=>e.all isPure)then
         some ⟨.undef,aK (aK H a ((H a).set r {o with elems:=o.elems.set i (putCells e j [.sl a (H a).length 0 len])}++[p])) h [],fun x _=>x==h⟩else none
       |_=>none
     |some (.fn f l)=>match od a l with
      |some q=>if n=1/\j<e.length/\0<q.length then some ⟨.undef,aK H a ((H a).set r {o with elems:=o.elems.set i (putCells e j [.fn f a q])}),fun _ _=>false⟩else none
      |none=>none
     |some v=>match cellsOf v with
      |some l=>if l.length=n/\j+n<=e.length/\l.all (Zw a)then
        some ⟨.undef,aK H a ((H a).set r {o with elems:=o.elems.set i (putCells e j l)}),fun _ _=>false⟩else none
      |none=>none
     |none=>none
    |none=>none
   |none=>none
  |_,_=>none
 | .call c=>match c.callee,c.args.toList,c.argTypes.toList with
  | .builtin .append,[s,x],[t,w]=>match ev s,(ev x).bind (newsOf H),sliceO P t with
   |some (.one (.sl a r g len)),some b,some e=>match(H a)[r]?,zeroO P e,szO P e,byO P e with
    |some o,some z,some sz,some m=>if a<=4999/\t=w/\o.ty=e/\o.es=sz/\o.elems.all (fun e=>e.all isPure)/\g=0/\len=o.elems.length/\(len+b.length)*m<=140737488355328/\len+b.length<=9223372036854775807/\z.length=sz/\(∀e∈b,e.length=sz)then
      some ⟨.one (.sl a r 0 (len+b.length)),aK H a (((H a).map (oI fun x y=>x==a&&y==r)).set r {o with elems:=o.elems++b}),fun x y=>x==a&&y==r⟩else none
    |_,_,_,_=>none
   |_,_,_=>none
  |_,_,_=>none
 |_=>none
noncomputable def fo (P:Program) (b:List (dD P)) (c:List Nat) (i:Nat) (o:Oper) (s:AS):Option AS:=
 if qp o.op then(kH P s.ev o.op).map (s.put o.dst)
 else if A7 o.op then(b9 P s.ev s.H o.op).map (s.put o.dst)
 else match iY P s.ev s.H o.op with
  |some q=>some (AS.put ⟨s.tmps.map (bi q.k),q.H⟩ o.dst q.t)
  |none=>match o.dst with
   |none=>none
   |some d=>match dM P b c i d s.ev s.H o.op with
    |some (t,[])=>some (s.put (some d) t)
    |some (t,F)=>match s.H d with
     |[]=>some (AS.put ⟨s.tmps,aK s.H d F⟩ (some d) t)
     |_=>none
    |none=>none
noncomputable def bs (P:Program) (c:List (dD P)) (h:List Nat) (f:Array Oper) (i:Nat) (o:Oper) (s:AS):Option AS:=
 match o.guard with
 |none=>fo P c h i o s
 |some (g,e)=>match(f[g]?).bind (·.dst)with
  |none=>none
  |some d=>match s.tmps[d]? with
   |some (.one (.p (.raw (.bool b))))=>if b=e then fo P c h i o s else some (s.put o.dst .undef)
   |some (.tup [])=>some (s.put o.dst .undef)
   |_=>none
noncomputable def ja (P:Program) (b:List (dD P)) (f:List Nat) (c:Array Oper):List (Oper×Nat)->AS->Option AS
 |[],s=>some s
 |(o,i)::e,s=>match bs P b f c i o s with
  |some g=>ja P b f c e g
  |none=>none
section
section
variable {P:Program} {ρ:Rho} {H:OH} {X:Nat->Prop} {w:World}
def ku (ρ:Rho) (H:OH) (X:Nat->Prop) (w:World) (ev:Operand->Option TV) (e:Operand->Value):Prop:= ∀x t,ev x=some t->TV.rel ρ H X w t (e x)
theorem bo {a v:Value} (h:TV.rel ρ H X w (.raw a) v):v=a/\a.oneCell'=true:=by
 cases h with
 |raw v h=>grind
theorem dc {a:Value} (h:a.oneCell'=true):TV.rel ρ H X w (.raw a) a:=bS.raw a h
theorem Ja (v:Value):TV.rel ρ H X w (nI v) v:=by
 unfold nI;split
 ·rename_i c;split
  ·rename_i h;simp only[aeP]at h;refine⟨c,rfl,by simp,fun j x b=>?_⟩;rw[aeG]at b;cases f:c.toList[j]? with
   |none=>grind
   |some u=>
    rw[f]at b;simp at b;subst b;have e:u.oneCell'=true:=h u (adQ f);exact⟨u,by grind,e,bS.raw u e⟩
  exact trivial
 split
 ·exact bS.raw _ (by assumption)
 exact trivial
theorem Iy {op:BinOp} {a v:Value} (c:Dx (As P h) op a e=some v) (x y:Operand):
  (do eqGuard op h x y a e;binOp op h a e:Sem Value).run P w= .ok v w/\v.oneCell'=true:=by
 unfold Dx at c;split at c
 case h_1|h_2|h_3|h_8|h_9|h_10|h_11|h_12|h_13|h_14|h_15|h_16|h_17=>
  split at c
  ·rename_i f;subst f;injection c with c
   subst c;refine⟨?_,rfl⟩;show(if _≠_ then _ else _:Sem Value).run P w=_;rw[if_neg (fun c=>c rfl)];rfl
  cases c
 case h_4|h_5=>
  split at c
  ·rename_i f;obtain⟨f,g⟩:=f;subst f;injection c with c
   subst c;refine⟨?_,rfl⟩;show(if _≠_ then _ else(if _=_ then _ else _):Sem Value).run P w=_;simp_all
  cases c
 case h_6|h_7=>
  split at c
  ·rename_i g;injection c with c
   subst c;refine⟨?_,rfl⟩;show(if _<_ then _ else _:Sem Value).run P w=_;simp_all[if_neg]
  cases c
 case h_18|h_19=>
  split at c
  ·rename_i g;injection c with c
   subst c;have j:P.underlying h=some .bool:=by
    grind [As]
   refine⟨?_,rfl⟩
   first
    |exact run_eql_bool w h _ _ j
    |exact run_neq_bool w h _ _ j
  cases c
 grind
theorem Lp {op:UnOp} {a:Value} (h:QR op a=some e):(Op.unary op a).run P w= .ok e w/\e.oneCell'=true:=by
 unfold QR at h;split at h
 ·injection h with h;subst h;exact⟨rfl,rfl⟩
 ·injection h with h;subst h;exact⟨rfl,rfl⟩
 cases h
theorem gA {s:Sem Value} (h:s.run P w= .ok e W):(do pure (Next.value (<- s)):Sem Next).run P w= .ok (.value e) W:=by
 simp_all
theorem abi {s:Sem Unit} (h:s.run P w= .ok () W):(do s;pure Next.skip:Sem Next).run P w= .ok .skip W:=by
 simp_all
theorem lz {e:TypeId} {n:Nat} (b:tI P h=some (n,e)):P.underlying h=some (.array n e):=by
 unfold tI at b;cases c:P.underlying h with
 |none=>grind
 |some d=>grind
theorem qu {d k0:Nat} {e:TypeId} {C:IntKind} (r:P.underlying e=some (.int C)) (n:(isAgg e).run P w= .ok false w) {vs us:Array Value}: ∀(f l:List AV) (m:Nat) (b:Bool),UB f l=some b->
  (∀(j:Nat) x,f[j]?=some x-> ∃u:Value,vs[m+j]?=some u/\x.rel ρ H X w u)->(∀(j:Nat) x,l[j]?=some x-> ∃u:Value,us[m+j]?=some u/\x.rel ρ H X w u)->
  (Op.eqItems (d+1) e 1 vs us (List.range' m f.length)).run P w= .ok b w
 |[],[],m,b,h,_,_=>by
  simp_all[UB,Op.eqItems]
 | .p (.raw (.int k a))::f,.p (.raw (.int L g))::l,m,b,h,o,q=>by
  simp only[UB]at h;split at h
  ·rename_i c z;split at h
   ·rename_i A;subst A;injection h with h
    subst h;obtain⟨u,M,I⟩:=o 0 _ rfl;obtain⟨G,N,J⟩:=q 0 _ rfl;have s:=(bo (H:=H) (ρ:=ρ) (X:=X) (w:=w) (v:=u) I).1;have t:=(bo (H:=H) (ρ:=ρ) (X:=X) (w:=w) (v:=G) J).1;subst s t;have K:=qu (d:=d) (k0:=k0) r n (vs:=vs) (us:=us) f l (m+1) c z (fun j x B=>by
     have:=o (j+1) x (by grind);grind) (fun j x B=>by
     have:=q (j+1) x (by grind);grind)
    simp only[ae6,afj,Op.eqItems,aeU];have D:(part e vs (m*1)).run P w= .ok (.int k a) w:=by
     simp_all[part]
    have E:(part e us (m*1)).run P w= .ok (.int k g) w:=by
     simp_all[part]
    rw[D,aeH,E,aeH];have F:(Op.equalIn (d+1) e (.int k a) (.int k g)).run P w= .ok (a==g) w:=by
     simp[Op.equalIn,aeU,run_underlying r]
    rw[F,aeH];by_cases y:a=g
    ·grind
    simp_all
   cases h
  cases h
 |[],_::_,_,_,h,_,_=>by simp[UB]at h
 | .p (.raw (.int _ _))::_,[],_,_,h,_,_=>by simp[UB]at h
theorem Iw {op:BinOp} {s z:List AV} (f:Iv P op h s z=some m) {vs:Value} (S:dK ρ H X w s vs) (C:dK ρ H X w z e) (x y:Operand):
  ∃v,(do eqGuard op h x y vs e;binOp op h vs e:Sem Value).run P w= .ok v w/\m.rel ρ H X w v:=by
 obtain⟨vs,rfl,v1,U⟩:=S;obtain⟨e,rfl,Z,u2⟩:=C;have key: ∀n b,KO P h=some n->UB s z=some b->s.length=n->(Op.equalIn 10000 h (.agg vs) (.agg e)).run P w= .ok b w/\P.eqGuardType P.depth h=false:=fun n b l o p=>by
  unfold KO at l;split at l
  ·rename_i g c M;split at l
   ·rename_i N;obtain⟨I,V,J,K⟩:=N;injection l with l
    subst l;refine⟨?_,K⟩;obtain⟨G,Q⟩: ∃G,P.underlying c=some (.int G):=by
     unfold CZ at I;cases C:P.underlying c with
     |none=>grind
     |some d=>grind
    obtain⟨i,O,R⟩: ∃i,P.info? c=some i/\i.size=1:=by
     unfold szO at J;simp_all
    have A:(isAgg c).run P w= .ok false w:=by
     simp_all[isAgg,run_underlying]
    rw[show(10000:Nat)=9999+1 from rfl,run_equalIn_array w 9999 vs e (lz M) O];have B:P.cellsOf c=1:=by grind [Program.cellsOf]
    rw[B,afi,<- p];exact qu (d:=9998) (k0:=0) Q A s z 0 b o (fun j x D=>by obtain⟨u,W,_,L⟩:=U j x D;exact⟨u,by grind,L⟩) (fun j x D=>by grind)
   cases l
  cases l
 have guard: ∀q,P.eqGuardType P.depth h=false->(eqGuard q h x y (.agg vs) (.agg e)).run P w= .ok () w:=fun q Y=>by
  simp_all[eqGuard]
 unfold Iv at f;split at f
 ·rename_i n b l o;split at f
  ·rename_i p;injection f with f
   subst f;obtain⟨E,F⟩:=key n b l o p;refine⟨.bool b,?_,dc rfl⟩;grind [Sem.run_bind,Result.andThen_ok,run_eql_struct]
  cases f
 ·rename_i n b l o;split at f
  ·rename_i p;injection f with f
   subst f;obtain⟨E,F⟩:=key n b l o p;refine⟨.bool !b,?_,dc rfl⟩;rw[aeU,guard _ F,aeH];show((do let r<- Op.equal h (.agg vs) (.agg e);pure (.bool !r):Sem Value)).run P w=_;rw[aeU];have:(Op.equal h (.agg vs) (.agg e)).run P w= .ok b w:=E;simp_all
  cases f
 cases f
theorem Br {b:Bool} (h:Bq m=some b) (f:m.rel ρ H X w e): ∃a n c,e= .slice a n c/\(b=true↔a=none):=by
 unfold Bq at h;split at h
 ·injection h with h
  subst h;have:=(bo f).1;grind
 ·injection h with h
  subst h;have f:bS X w _ e:=f;cases f with
  |sl=>simp
 cases h
theorem I5 {op:BinOp} {D E:Option TV} (g:DS P op h D E=some m) {u:Value} (K: ∀x,D=some x->x.rel ρ H X w e) (F: ∀x,E=some x->x.rel ρ H X w u) (x y:Operand):
  ∃r,(do eqGuard op h x y e u;binOp op h e u:Sem Value).run P w= .ok r w/\m.rel ρ H X w r:=by
 have key: ∀f b,sliceO P h=some f->D.bind Bq=some b->E.bind Bq=some true-> ∃a n c j k,e= .slice a n c/\u= .slice none j k/\(Op.equal h e u).run P w= .ok b w:=fun f b p o s=>by
  obtain⟨M,z,A⟩:=aeZ.1 o;obtain⟨N,B,C⟩:=aeZ.1 s;obtain⟨a,n,c,rfl,G⟩:=Br A (K _ z);obtain⟨L,j,k,rfl,l⟩:=Br C (F _ B);have l:=l.1 rfl;subst l;refine⟨a,n,c,j,k,rfl,rfl,?_⟩;have q:P.underlying h=some (.slice f):=by
   unfold sliceO at p;cases F:P.underlying h with
   |none=>grind
   |some d=>grind
  suffices I: ∀d,(Op.equalIn (d+1) h (.slice a n c) (.slice none j k)).run P w= .ok b w from I 9999
  intro d;cases a with
  |none=>
   rw[G.2 rfl];simp[Op.equalIn,aeU,run_underlying q]
  |some a=>
   have:b=false:=by
    grind
   subst this;simp[Op.equalIn,aeU,run_underlying q]
 unfold DS at g;split at g
 ·rename_i f b p o s;injection g with g
  subst g;obtain⟨a,n,c,j,k,rfl,rfl,J⟩:=key _ _ p o s;refine⟨.bool b,?_,dc rfl⟩;rw[aeU,show(eqGuard .eql h x y (.slice a n c) (.slice none j k)).run P w= .ok () w from rfl,aeH];show((do let r<- Op.equal h (.slice a n c) (.slice none j k);pure (.bool r):Sem Value)).run P w=_;simp_all
 ·rename_i f b p o s;injection g with g
  subst g;obtain⟨a,n,c,j,k,rfl,rfl,J⟩:=key _ _ p o s;refine⟨.bool !b,?_,dc rfl⟩;rw[aeU,show(eqGuard .neq h x y (.slice a n c) (.slice none j k)).run P w= .ok () w from rfl,aeH];show((do let r<- Op.equal h (.slice a n c) (.slice none j k);pure (.bool !r):Sem Value)).run P w=_;simp_all
 cases g
theorem oP {f:Int->Int->Int} {l:List (Option TV)} (h:Vx f l=some m): ∃k c a b,l=[some (.one (.p (.raw (.int k a)))),some (.one (.p (.raw (.int c b))))]/\m= .raw (.int k (f a b)):=by
 unfold Vx at h;grind
theorem FB {c e:Type} {f:c->e} {l:List c} {x y:e} (h:l.map f=[x,y]): ∃a b,l=[a,b]/\f a=x/\f b=y:=by
 match l,h with
 |[a,b],h=>grind
theorem AN {ev:Operand->Option TV} {e:Operand->Value} (f:ku ρ H X w ev e) {o:Oper} (h:kH P ev o.op=some m):
  ∃v,(execOp e o).run P w= .ok (.value v) w/\m.rel ρ H X w v:=by
 unfold execOp;cases O:o.op<;>rw[O]at h<;>simp only[kH]at h<;>try cases h
 case call c=>
  obtain⟨callee,args,argTypes⟩:=c;unfold mmC at h;split at h
  ·rename_i g;simp only at g;subst g;obtain⟨k,J,a,b,F,rfl⟩:=oP h;obtain⟨x,y,j,p,r⟩:=FB F;obtain⟨args⟩:=args;simp only at j;subst j;refine⟨_,?_,dc rfl⟩;have A:=(bo (f x _ p)).1;have B:=(bo (f y _ r)).1;simp only[resolve,invoke,builtin,aeU,afC,aeH,ahz,aeX,afh,A,B];rfl
  ·rename_i g;simp only at g;subst g;obtain⟨k,J,a,b,F,rfl⟩:=oP h;obtain⟨x,y,j,p,r⟩:=FB F;obtain⟨args⟩:=args;simp only at j;subst j;refine⟨_,?_,dc rfl⟩;have A:=(bo (f x _ p)).1;have B:=(bo (f y _ r)).1;simp only[resolve,invoke,builtin,aeU,afC,aeH,ahz,aeX,afh,A,B];rfl
  cases h
 case move x=>exact⟨_,rfl,f x m h⟩
 case assign x=>exact⟨_,rfl,f x m h⟩
 case pick c a b=>
  split at h
  ·rename_i g;have:=(bo (f c _ g)).1;refine⟨e a,?_,f a m h⟩;simp only[this];rfl
  ·rename_i g;have:=(bo (f c _ g)).1;refine⟨e b,?_,f b m h⟩;simp only[this];rfl
  cases h
 case binOp op ty x y yt=>
  split at h
  ·obtain⟨v,C,s⟩:=I5 h (fun m G=>f x m G) (fun m G=>f y m G) x y;grind [gA]
  split at h
  ·rename_i a b l D;have p:=(bo (f x _ l)).1;have r:=(bo (f y _ D)).1;cases q:Dx (As P ty) op a b with
   |none=>grind
   |some v=>
    rw[q]at h;simp at h;subst h;obtain⟨C,s⟩:=Iy (P:=P) (w:=w) q x y;refine⟨v,?_,dc s⟩;grind [gA]
  ·rename_i W Y l D;obtain⟨v,C,s⟩:=Iw h (f x _ l) (f y _ D) x y;grind [gA]
  cases h
 case unOp op ty x=>
  split at h
  ·rename_i a l;have p:=(bo (f x _ l)).1;cases q:QR op a with
   |none=>grind
   |some v=>
    rw[q]at h;simp at h;subst h;obtain⟨C,s⟩:=Lp (P:=P) (w:=w) q;simp_all[dc]
  cases h
 case convert src dst x=>
  split at h
  ·rename_i k n U J l Q N;have p:=(bo (f x _ l)).1;injection h with h
   subst h;have M:P.underlying dst=some (.int J):=by
    unfold CZ at N;cases L:P.underlying dst with
    |none=>grind
    |some d=>grind
   refine⟨_,?_,dc rfl⟩;simp only[p];refine gA ?_;unfold convert;rw[aeU,run_underlying Q,aeH,aeU,run_underlying M,aeH];rfl
  cases h
 case extract x i=>
  split at h
  ·rename_i V l;obtain⟨vs,S,R,K⟩:=f x _ l;split at h
   ·rename_i T E;injection h with h
    subst h;obtain⟨u,L,g⟩:=K i _ _ E;rcases g with⟨_,g⟩|⟨g,_⟩
    ·refine⟨u,?_,g⟩;simp_all[Instr.extract]
    cases g
   ·rename_i y E;injection h with h
    subst h;obtain⟨u,L,g⟩:=K i _ _ E;rcases g with⟨g,_⟩|⟨_,z,I,g⟩
    ·cases g
    injection I with I
    subst I;refine⟨u,?_,g⟩;simp_all[Instr.extract]
   cases h
  cases h
end
end
end Go.Proofs.YtalmoejhjceflaaGreat
