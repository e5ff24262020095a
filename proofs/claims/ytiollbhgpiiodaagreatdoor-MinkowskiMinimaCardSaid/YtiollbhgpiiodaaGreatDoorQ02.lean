/-
  Part 3 of a proof (walks and plain facts).
-/
import Derived.Test.YtiollbhgpiiodaaGreatDoorQ01
import Derived.Laws.AppendOwn
import Derived.Maps.AppendAt
import Derived.Deep.OwnRows
import Derived.Orders
import Derived.ChangeKeysEq
import Derived.Laws.StructEq
set_option linter.all false
set_option maxRecDepth 100000
set_option maxHeartbeats 64000000
open Option renaming map_some → ag
open Go.Result renaming andThen_ok → aj
namespace Go.Proofs.YtiollbhgpiiodaaGreatDoor
open Go.RowKit
inductive PV where
 |raw (v:Value)
 |sl (xs:List (List PV))
 |ptr (cs:List PV)
inductive AV where
 |p (x:PV)
 |sl (a r off len:Nat)
 |ptr (a r i j:Nat)
 |junk
inductive TV where
 |one (x:AV)
 |agg (cs:List AV)
 |tup (ts:List (Bool×List AV))
 |fn (f:FuncId) (cs:List AV)
structure OObj where
 ty:TypeId
 es:Nat
 elems:List (List AV)
abbrev OH:=Nat->List OObj
structure AS where
 tmps:List TV
 H:OH
inductive cu (X:Nat->Prop) (w:World):PV->Value->Prop
 |raw (v:Value) (h:v.oneCell'=true):cu X w (.raw v) v
 |nil (a:Option Addr) (c:Nat):cu X w (.sl []) (.slice a 0 c)
 |sl (b off es cap:Nat) (xs:List (List PV)) (f:Nat->Nat->Value) (hX: ¬X b) (hb:b<w.heap.size) (hes: ∀e∈xs,e.length=es) (hcap:xs.length<=cap) (hm:xs.length<=9223372036854775807)
   (hc: ∀(i:Nat) e (j:Nat) x,xs[i]?=some e->e[j]?=some x->w.cell? ⟨b,off+i*es+j,none⟩=some (f i j))
   (hr: ∀(i:Nat) e (j:Nat) x,xs[i]?=some e->e[j]?=some x->cu X w x (f i j)):cu X w (.sl xs) (.slice (some ⟨b,off,none⟩) xs.length cap)
 |ptr (b off:Nat) (cs:List PV) (f:Nat->Value) (hX: ¬X b) (hb:b<w.heap.size)
   (hc: ∀(j:Nat) x,cs[j]?=some x->w.cell? ⟨b,off+j,none⟩=some (f j))
   (hr: ∀(j:Nat) x,cs[j]?=some x->cu X w x (f j)):cu X w (.ptr cs) (.pointer (some ⟨b,off,none⟩))
theorem cu.one {X:Nat->Prop} {w:World} {x:PV} {v:Value} (h:cu X w x v):v.oneCell'=true:=by
 cases h<;>first|assumption|rfl
def Kr (X:Nat->Prop) (w w':World):Prop:=w.heap.size<=w'.heap.size/\ ∀p v,¬X p.block->w.cell? p=some v->w'.cell? p=some v
theorem cu.stays {X:Nat->Prop} {w w':World} (hs:Kr X w w') {x:PV} {v:Value} (h:cu X w x v):cu X w' x v:=by
 induction h with
 |raw v h=>exact .raw v h
 |nil a c=>exact .nil a c
 |sl b off es cap xs f hX hb hes hcap hm hc hr ih=>exact .sl b off es cap xs f hX (Nat.lt_of_lt_of_le hb hs.1) hes hcap hm (fun i e j x h1 h2=>hs.2 _ _ hX (hc i e j x h1 h2)) ih
 |ptr b off cs f hX hb hc hr ih=>exact .ptr b off cs f hX (Nat.lt_of_lt_of_le hb hs.1) (fun j x h1=>hs.2 _ _ hX (hc j x h1)) ih
theorem cu.weaken {X Y:Nat->Prop} {w:World} (hs: ∀b,b<w.heap.size->Y b->X b) {x:PV} {v:Value} (h:cu X w x v):cu Y w x v:=by
 induction h with
 |raw v h=>exact .raw v h
 |nil a c=>exact .nil a c
 |sl b off es cap xs f hX hb hes hcap hm hc hr ih=>exact .sl b off es cap xs f (fun h=>hX (hs _ hb h)) hb hes hcap hm hc ih
 |ptr b off cs f hX hb hc hr ih=>exact .ptr b off cs f (fun h=>hX (hs _ hb h)) hb hc ih
abbrev Rho:=Nat->Nat->Option (Nat×Nat)
def Xo (X:Nat->Prop) (ρ:Rho) (H:OH):Nat->Prop:=fun b=>X b\/ ∃(a r:Nat) (o:OObj) (c:Nat),(H a)[r]?=some o/\ρ a r=some (b,c)
def AV.rel (ρ:Rho) (H:OH) (X:Nat->Prop) (w:World):AV->Value->Prop
 | .p x,v=>cu X w x v
 | .sl a r off len,v=> ∃o,(H a)[r]?=some o/\off+len<=o.elems.length/\
   ((ρ a r=none/\v= .slice none 0 0/\len=0/\off=0)\/ ∃b c cap,ρ a r=some (b,c)/\v= .slice (some ⟨b,off*o.es,none⟩) len cap/\len<=cap/\(a<=4999->cap=c-off))
 | .ptr a r i j,v=> ∃o b c,(H a)[r]?=some o/\ρ a r=some (b,c)/\i<o.elems.length/\v= .pointer (some ⟨b,i*o.es+j,none⟩)
 | .junk,_=>True
theorem ku {a a' r r' off len es:Nat} {ρ ρ':Rho} {v:Value} (ha:a<=4999) (h:(ρ a r=none/\v= .slice none 0 0/\len=0/\off=0)\/ ∃b c cap,ρ a r=some (b,c)/\v= .slice (some ⟨b,off*es,none⟩) len cap/\len<=cap/\(a<=4999->cap=c-off)) (hr:ρ' a' r'=ρ a r):
  (ρ' a' r'=none/\v= .slice none 0 0/\len=0/\off=0)\/ ∃b c cap,ρ' a' r'=some (b,c)/\v= .slice (some ⟨b,off*es,none⟩) len cap/\len<=cap/\(a'<=4999->cap=c-off):=by
 rw[hr];rcases h with h|⟨b,c,cap,h1,h2,h3,h4⟩
 ·exact .inl h
 exact .inr ⟨b,c,cap,h1,h2,h3,fun _=>h4 ha⟩
def bX (ρ:Rho) (H:OH) (X:Nat->Prop) (w:World) (cs:List AV) (v:Value):Prop:=
 ∃vs:Array Value,v= .agg vs/\vs.size=cs.length/\ ∀(j:Nat) x,cs[j]?=some x-> ∃u:Value,vs[j]?=some u/\u.oneCell'=true/\x.rel ρ H X w u
def VQ (f:FuncId):Value->Value
 | .agg vs=> .func (.func f) #[] vs
 |v=>v
def TV.rel (ρ:Rho) (H:OH) (X:Nat->Prop) (w:World):TV->Value->Prop
 | .one x,v=>x.rel ρ H X w v
 | .agg cs,v=>bX ρ H X w cs v
 | .tup ts,v=> ∃vs:Array Value,v= .tuple vs/\vs.size=ts.length/\ ∀(j:Nat) b cs,ts[j]?=some (b,cs)-> ∃u:Value,vs[j]?=some u/\
   ((b=true/\bX ρ H X w cs u)\/(b=false/\ ∃x,cs=[x]/\x.rel ρ H X w u))
 | .fn f cs,v=> ∃u,bX ρ H X w cs u/\v=VQ f u
def objRel (ρ:Rho) (H:OH) (X:Nat->Prop) (w:World) (a r:Nat) (o:OObj):Prop:=
 (∀e∈o.elems,e.length=o.es)/\0<o.es/\
 match ρ a r with
 |none=>o.elems=[]
 |some (b,c)=> ∃cells,w.heap[b]?=some (.cells cells o.ty (0,0))/\cells.size=c*o.es/\o.elems.length<=c/\c<=9223372036854775807/\
   ∀(i:Nat) e (j:Nat) x,o.elems[i]?=some e->e[j]?=some x-> ∃v:Value,cells[i*o.es+j]?=some v/\v.oneCell'=true/\x.rel ρ H X w v
structure Keep (O:Nat->Prop) (w0 w:World):Prop where
 os:w.os=w0.os
 tape:w.tape=w0.tape
 output:w.output=w0.output
 size:w0.heap.size<=w.heap.size
 block: ∀k,k<w0.heap.size-> ¬O k->w.heap[k]?=w0.heap[k]?
def cW (a:Nat):AV->Prop
 | .sl b _ _ _=>b=a
 | .ptr b _ _ _=>b=a
 |_=>True
def selfO (a:Nat) (o:OObj):Prop:= ∀e∈o.elems,∀x∈e,cW a x
structure Inv (w0:World) (O X:Nat->Prop) (H:OH) (ρ:Rho) (w:World):Prop where
 keep:Keep O w0 w
 objs: ∀(a r:Nat) (o:OObj),(H a)[r]?=some o->objRel ρ H (Xo X ρ H) w a r o
 inj: ∀(a r a' r':Nat) (o o':OObj) (b c c':Nat),(H a)[r]?=some o->(H a')[r']?=some o'->ρ a r=some (b,c)->ρ a' r'=some (b,c')->a=a'/\r=r'
 old: ∀(a r:Nat) (o:OObj) (b c:Nat),(H a)[r]?=some o->ρ a r=some (b,c)->(w0.heap.size<=b\/O b)/\ ¬X b
 bar: ∀b,X b->b<w.heap.size
 self: ∀(a r:Nat) (o:OObj),(H a)[r]?=some o->selfO a o
def fW (w0:World) (O X:Nat->Prop) (s:AS) (a:Act) (w:World):Prop:=
 a.defers=[]/\a.tmps.size=s.tmps.length/\ ∃ρ,Inv w0 O X s.H ρ w/\
  ∀(t:Nat) x,s.tmps[t]?=some x-> ∃v:Value,a.tmps[t]?=some v/\x.rel ρ s.H (Xo X ρ s.H) w v
def szO (P:Program) (t:TypeId):Option Nat:=(P.info? t).map (·.size)
def byO (P:Program) (t:TypeId):Option Nat:=(P.info? t).map (·.bytes)
def zeroO (P:Program) (t:TypeId):Option (List Value):=((P.info? t).bind (·.zero)).map (·.cells.toList)
def kD (P:Program) (t:TypeId):Option Bool:=(P.underlying t).map fun| .struct _=>true| .array _ _=>true|_=>false
def sliceO (P:Program) (t:TypeId):Option TypeId:=(P.underlying t).bind fun| .slice e=>some e|_=>none
def me (P:Program) (t:TypeId):Option (Nat×TypeId):=(P.underlying t).bind fun| .array n e=>some (n,e)|_=>none
def xk (P:Program) (t:TypeId):Option IntKind:=(P.underlying t).bind fun| .int k=>some k|_=>none
def uY (P:Program) (t:TypeId):Bool:=match P.underlying t with|some .bool=>true|_=>false
def gH (P:Program) (t:TypeId) (f:Nat):Option (Nat×TypeId):=(P.underlying t).bind fun| .struct fs=>(fs[f]?).map fun d=>(d.offset,d.type)|_=>none
abbrev AV.raw (v:Value):AV:= .p (.raw v)
abbrev TV.raw (v:Value):TV:= .one (.p (.raw v))
abbrev TV.undef:TV:= .tup []
def oV:Value->TV
 | .agg cs=>if cs.toList.all (·.oneCell')then .agg (cs.toList.map AV.raw)else .one .junk
 |v=>if v.oneCell' then .raw v else .one .junk
def AS.ev (s:AS):Operand->Option TV
 | .tmp t=>s.tmps[t]?
 | .const v=>some (oV v)
 | .global g=>some (.raw (.pointer (some ⟨g,0,none⟩)))
 | .func f=>some (.raw (.func (.func f) #[] #[]))
def AS.put (s:AS) (d:Option Tmp) (t:TV):AS:=
 match d with
 |some d=>{s with tmps:=s.tmps.set d t}
 |none=>s
def packT (P:Program) (t:TypeId) (cs:List AV):Option TV:=
 match szO P t,kD P t with
 |some n,some true=>if n<=cs.length then some (.agg (cs.take n))else none
 |some _,some false=>match cs with
  |x::_=>some (.one x)
  |[]=>none
 |_,_=>none
def xY (bt:Bool):BinOp->Value->Value->Option Value
 | .add,.int k a,.int k' b=>if k=k' then some (.int k (k.wrap (a+b)))else none
 | .sub,.int k a,.int k' b=>if k=k' then some (.int k (k.wrap (a-b)))else none
 | .mul,.int k a,.int k' b=>if k=k' then some (.int k (k.wrap (a*b)))else none
 | .quo,.int k a,.int k' b=>if k=k'/\b≠0 then some (.int k (k.wrap (a.tdiv b)))else none
 | .rem,.int k a,.int k' b=>if k=k'/\b≠0 then some (.int k (a.tmod b))else none
 | .shl,.int k a,.int _ b=>if 0<=b then some (.int k (k.wrap (a*2^(min b.toNat k.bits))))else none
 | .shr,.int k a,.int _ b=>if 0<=b then some (.int k (a.fdiv (2^(min b.toNat k.bits))))else none
 | .and,.int k a,.int k' b=>if k=k' then some (.int k (k.wrap ((BitVec.ofInt k.bits a&&&BitVec.ofInt k.bits b).toNat:Int)))else none
 | .or,.int k a,.int k' b=>if k=k' then some (.int k (k.wrap ((BitVec.ofInt k.bits a|||BitVec.ofInt k.bits b).toNat:Int)))else none
 | .xor,.int k a,.int k' b=>if k=k' then some (.int k (k.wrap ((BitVec.ofInt k.bits a^^^BitVec.ofInt k.bits b).toNat:Int)))else none
 | .andNot,.int k a,.int k' b=>if k=k' then some (.int k (k.wrap ((BitVec.ofInt k.bits a&&& ~~~BitVec.ofInt k.bits b).toNat:Int)))else none
 | .eql,.int k a,.int k' b=>if k=k' then some (.bool (decide (a=b)))else none
 | .neq,.int k a,.int k' b=>if k=k' then some (.bool (!decide (a=b)))else none
 | .lss,.int k a,.int k' b=>if k=k' then some (.bool (decide (a<b)))else none
 | .leq,.int k a,.int k' b=>if k=k' then some (.bool (decide (a<=b)))else none
 | .gtr,.int k a,.int k' b=>if k=k' then some (.bool (decide (b<a)))else none
 | .geq,.int k a,.int k' b=>if k=k' then some (.bool (decide (b<=a)))else none
 | .eql,.bool a,.bool b=>if bt=true then some (.bool (a==b))else none
 | .neq,.bool a,.bool b=>if bt=true then some (.bool (!(a==b)))else none
 |_,_,_=>none
def zc (P:Program) (t:TypeId):Option Nat:=match me P t with
 |some (n,e)=>if xk P e≠none/\kD P e=some false/\szO P e=some 1/\P.eqGuardType P.depth t=false then some n else none
 |none=>none
def Em:List AV->List AV->Option Bool
 |[],[]=>some true
 | .p (.raw (.int k a))::xs,.p (.raw (.int k' b))::ys=>match Em xs ys with
  |some c=>if k=k' then some (decide (a=b)&&c)else none
  |none=>none
 |_,_=>none
def xX (P:Program) (op:BinOp) (t:TypeId) (xs ys:List AV):Option TV:=match zc P t,Em xs ys,op with
 |some n,some b,.eql=>if xs.length=n then some (.raw (.bool b))else none
 |some n,some b,.neq=>if xs.length=n then some (.raw (.bool !b))else none
 |_,_,_=>none
def II:UnOp->Value->Option Value
 | .neg,.int k n=>some (.int k (k.wrap (0-n)))
 | .not,.bool b=>some (.bool !b)
 |_,_=>none
def Ex:Operand->Bool
 | .const (.slice none _ _)=>true
 |_=>false
def vY:TV->Option Bool
 | .one (.p (.raw (.slice none _ _)))=>some true
 | .one (.p (.sl (_::_)))=>some false
 |_=>none
def ym (P:Program) (op:BinOp) (t:TypeId) (x y:Option TV):Option TV:=match sliceO P t,x.bind vY,y.bind vY,op with
 |some _,some b,some true,.eql=>some (.raw (.bool b))
 |some _,some b,some true,.neq=>some (.raw (.bool !b))
 |_,_,_,_=>none
def RA (f:Int->Int->Int):List (Option TV)->Option TV
 |[some (.one (.p (.raw (.int k a)))),some (.one (.p (.raw (.int _ b))))]=>some (.raw (.int k (f a b)))
 |_=>none
def UU (ev:Operand->Option TV) (c:Call):Option TV:=match c.callee with
 | .builtin .max=>RA (fun a b=>if b>a then b else a) (c.args.toList.map ev)
 | .builtin .min=>RA (fun a b=>if b<a then b else a) (c.args.toList.map ev)
 |_=>none
def Pv:Callee->Bool
 | .builtin .max| .builtin .min=>true
 |_=>false
def jc (P:Program) (ev:Operand->Option TV):Op->Option TV
 | .move x=>ev x
 | .assign x=>ev x
 | .pick c a b=>match ev c with
  |some (.one (.p (.raw (.bool true))))=>ev a
  |some (.one (.p (.raw (.bool false))))=>ev b
  |_=>none
 | .binOp op t x y _=>if Ex y=true then ym P op t (ev x) (ev y)else match ev x,ev y with
  |some (.one (.p (.raw a))),some (.one (.p (.raw b)))=>(xY (uY P t) op a b).map TV.raw
  |some (.agg xs),some (.agg ys)=>xX P op t xs ys
  |_,_=>none
 | .unOp op _ x=>match ev x with
  |some (.one (.p (.raw a)))=>(II op a).map TV.raw
  |_=>none
 | .convert src dst x=>match ev x,P.underlying src,xk P dst with
  |some (.one (.p (.raw (.int _ n)))),some _,some k=>some (.raw (.int k (k.wrap n)))
  |_,_,_=>none
 | .extract t i=>match ev t with
  |some (.tup ts)=>match ts[i]? with
   |some (true,cs)=>some (.agg cs)
   |some (false,[x])=>some (.one x)
   |_=>none
  |_=>none
 | .call c=>UU ev c
 |_=>none
def ud:Op->Bool
 | .call c=>Pv c.callee
 | .move _| .assign _| .pick ..| .binOp ..| .unOp ..| .convert ..| .extract ..=>true
 |_=>false
def yi (z:Int):Option Nat:=if 0<=z then some z.toNat else none
def eJ (ev:Operand->Option TV):Option Operand->Nat->Option Nat
 |none,d=>some d
 |some x,_=>match ev x with
  |some (.one (.p (.raw (.int _ n))))=>yi n
  |_=>none
def cellsOf:TV->Option (List AV)
 | .one (.p x)=>some [.p x]
 | .agg cs=>some cs
 |_=>none
def kU (P:Program) (t:TypeId):Option (List (Nat×Nat)):=(P.underlying t).bind fun| .struct fs=>fs.toList.mapM (fun f=>(P.info? f.type).map fun i=>(f.offset,i.size))| .array _ e=>(P.info? e).map fun _=>[]|_=>none
def jd (pl:List (Nat×Nat)) (ev:Operand->Option TV):List AV->List (Nat×Operand)->Option (List AV)
 |cs,[]=>some cs
 |cs,(f,x)::rest=>match pl[f]?,(ev x).bind cellsOf with
  |some (off,n),some ys=>if ys.length=n/\off+n<=cs.length then jd pl ev (cs.take off++ys++cs.drop (off+n)) rest else none
  |_,_=>none
def f6 (ev:Operand->Option TV):List Operand->Option (List TV)
 |[]=>some []
 |x::l=>match ev x,f6 ev l with
  |some t,some ts=>some (t::ts)
  |_,_=>none
def ke:List TV->Option (List AV)
 |[]=>some []
 | .one .junk::_=>none
 | .one x::l=>match ke l with
  |some cs=>some (x::cs)
  |none=>none
 |_::_=>none
def Iq:Option TV->Option (FuncId×List TV)
 |some (.fn f cs)=>some (f,cs.map TV.one)
 |some (.one (.p (.raw (.func (.func f) first caps))))=>if first.isEmpty&&caps.isEmpty then some (f,[])else none
 |_=>none
def cj (P:Program) (ev:Operand->Option TV) (H:OH):Op->Option TV
 | .load t a=>match ev a with
  |some (.one (.p (.ptr cs)))=>packT P t (cs.map AV.p)
  |some (.one (.ptr a r i j))=>match(H a)[r]? with
   |some o=>match o.elems[i]? with
    |some e=>packT P t (e.drop j)
    |none=>none
   |none=>none
  |_=>none
 | .indexAddr t x ix=>match ev ix with
  |some (.one (.p (.raw (.int _ n))))=>match yi n with
   |none=>none
   |some i=>match sliceO P t,ev x with
    |some e,some (.one (.p (.sl xs)))=>match xs[i]? with
     |some c=>if szO P e=some c.length then some (.one (.p (.ptr c)))else none
     |none=>none
    |some e,some (.one (.sl a r off len))=>match(H a)[r]? with
     |some o=>if szO P e=some o.es/\i<len then some (.one (.ptr a r (off+i) 0))else none
     |none=>none
    |none,some (.one (.p (.ptr cs)))=>match me P t with
     |some (n,e)=>match szO P e with
      |some sz=>if i<n then some (.one (.p (.ptr (cs.drop (i*sz)))))else none
      |none=>none
     |none=>none
    |none,some (.one (.ptr a r k j))=>match me P t with
     |some (n,e)=>match szO P e with
      |some sz=>if i<n then some (.one (.ptr a r k (j+i*sz)))else none
      |none=>none
     |none=>none
    |none,some (.one (.p (.raw (.pointer (some ⟨b,off,none⟩)))))=>match me P t with
     |some (n,e)=>match szO P e with
      |some sz=>if i<n then some (.one (.p (.raw (.pointer (some ⟨b,off+i*sz,none⟩)))))else none
      |none=>none
     |none=>none
    |_,_=>none
  |_=>none
 | .fieldAddr t x f=>match gH P t f,ev x with
  |some (off,ft),some (.one (.p (.ptr cs)))=>match szO P ft with
   |some (_+1)=>some (.one (.p (.ptr (cs.drop off))))
   |_=>none
  |some (off,ft),some (.one (.ptr a r i j))=>match szO P ft with
   |some (_+1)=>some (.one (.ptr a r i (j+off)))
   |_=>none
  |_,_=>none
 | .field t x f=>match gH P t f,ev x with
  |some (off,ft),some (.agg cs)=>packT P ft (cs.drop off)
  |_,_=>none
 | .index t x ix=>match ev ix with
  |some (.one (.p (.raw (.int _ n))))=>match yi n with
   |none=>none
   |some i=>match me P t,ev x with
    |some (m,e),some (.agg cs)=>match szO P e with
     |some sz=>if i<m then packT P e (cs.drop (i*sz))else none
     |none=>none
    |_,_=>none
  |_=>none
 | .slice t x (some lo) (some hi) (some mx)=>match sliceO P t,ev x with
  |some e,some (.one (.sl a r off len))=>match eJ ev (some lo) 0,eJ ev (some hi) 0,eJ ev (some mx) 0,(H a)[r]? with
   |some l,some h,some m,some o=>if szO P e=some o.es/\l<h/\h<=m/\m<=len/\5000<=a then some (.one (.sl a r (off+l) (h-l)))else none
   |_,_,_,_=>none
  |_,_=>none
 | .slice t x lo hi none=>match sliceO P t,ev x with
  |some e,some (.one (.p (.sl xs)))=>match eJ ev lo 0,eJ ev hi xs.length,szO P e with
   |some l,some h,some n=>if l<=h/\h<=xs.length/\ ∀c∈xs,c.length=n then some (.one (.p (.sl ((xs.take h).drop l))))else none
   |_,_,_=>none
  |some e,some (.one (.sl a r off len))=>match eJ ev lo 0,eJ ev hi len,(H a)[r]? with
   |some l,some h,some o=>if szO P e=some o.es/\l<h/\h<=len then some (.one (.sl a r (off+l) (h-l)))else if szO P e=some o.es/\l=h/\h<=len then some (.one (.p (.sl [])))else none
   |_,_,_=>none
  |_,_=>none
 | .build t parts=>match zeroO P t,kU P t with
  |some z,some pl=>if z.all (·.oneCell')then(jd pl ev (z.map AV.raw) parts.toList).map TV.agg else none
  |_,_=>none
 | .nilCheck x=>match ev x with
  |some (.one (.p (.ptr cs)))=>some (.one (.p (.ptr cs)))
  |some (.one (.ptr a r i j))=>some (.one (.ptr a r i j))
  |_=>none
 | .makeFunc (.func f) first captured=>if first.isEmpty then((f6 ev captured.toList).bind ke).map (TV.fn f)else none
 | .call {callee:= .builtin .len,args,argTypes}=>match args.toList,argTypes.toList with
  |[x],[t]=>match sliceO P t,ev x with
   |some _,some (.one (.p (.sl xs)))=>some (.raw (.int .i64 xs.length))
   |some _,some (.one (.sl _ _ _ len))=>some (.raw (.int .i64 len))
   |some _,some (.one (.p (.raw (.slice _ n _))))=>some (.raw (.int .i64 n))
   |_,_=>none
  |_,_=>none
 |_=>none
def Ou:Op->Bool
 | .load ..| .indexAddr ..| .fieldAddr ..| .field ..| .index ..| .slice ..| .build ..| .nilCheck ..| .makeFunc ..| .call {callee:= .builtin .len,..}=>true
 |_=>false
def isPure:AV->Bool
 | .p _=>true
 |_=>false
def unP:AV->PV
 | .p x=>x
 |_=> .raw undef
def dq (d:Nat):AV->AV
 | .sl _ r off len=> .sl d r off len
 | .ptr _ r i j=> .ptr d r i j
 |x=>x
def renTV (d:Nat):TV->TV
 | .one x=> .one (dq d x)
 | .agg cs=> .agg (cs.map (dq d))
 | .tup ts=> .tup (ts.map fun t=>(t.1,t.2.map (dq d)))
 | .fn f cs=> .fn f (cs.map (dq d))
def renO (d:Nat) (o:OObj):OObj:={o with elems:=o.elems.map (List.map (dq d))}
def famH (d:Nat) (F:List OObj):OH:=fun a=>if a=d then F else[]
def be (H:OH) (d:Nat) (F:List OObj):OH:=fun a=>if a=d then F else H a
def bs (k:Nat->Nat->Bool):AV->AV
 | .sl a r off len=>if k a r then .junk else .sl a r off len
 | .ptr a r i j=>if k a r then .junk else .ptr a r i j
 |x=>x
def bo (k:Nat->Nat->Bool):TV->TV
 | .one x=> .one (bs k x)
 | .agg cs=> .agg (cs.map (bs k))
 | .tup ts=> .tup (ts.map fun t=>(t.1,t.2.map (bs k)))
 | .fn f cs=> .fn f (cs.map (bs k))
def iz (k:Nat->Nat->Bool) (o:OObj):OObj:={o with elems:=o.elems.map (List.map (bs k))}
structure CallRes where
 fam:List OObj
 r:TV
def callable (P:Program) (f:FuncId):Bool:=match P.funcs[f]? with
 | some fn => fn.body.isSome && !(fn.name == "runtime.NumGoroutine")
 |none=>false
def CallC (P:Program) (f:FuncId) (args:List TV) (res:CallRes):Prop:=
 callable P f=true/\ ∀(X:Nat->Prop) (w:World) (vs:Array Value),(∀b,X b->b<w.heap.size)->vs.size=args.length->
  (∀(j:Nat) t,args[j]?=some t-> ∃v:Value,vs[j]?=some v/\t.rel (fun _ _=>none) (fun _=>[]) X w v)->
  Calls P f vs w fun e w'=> ∃v,e= .returned v/\ ∃ρ:Rho,
   Inv w (fun _=>False) X (famH 0 res.fam) ρ w'/\res.r.rel ρ (famH 0 res.fam) (Xo X ρ (famH 0 res.fam)) w' v
def rf:AV->Bool
 | .p (.raw _)=>true
 |_=>false
def nX:TV->Bool
 | .one x=>rf x
 | .agg cs=>cs.all rf
 | .tup ts=>ts.all fun t=>t.2.all rf
 | .fn _ cs=>cs.all rf
def CallRes.plain (res:CallRes):Bool:=res.fam.isEmpty&&nX res.r
def f7:AV->Bool
 | .sl ..=>false
 | .ptr ..=>false
 |_=>true
def noRefTV:TV->Bool
 | .one x=>f7 x
 | .agg cs=>cs.all f7
 | .tup ts=>ts.all fun t=>t.2.all f7
 | .fn _ cs=>cs.all f7
structure dD (P:Program) where
 i:Nat
 f:FuncId
 args:List TV
 res:CallRes
structure aM (P:Program) where
 i:Nat
 f:FuncId
 args:List TV
 res:CallRes
 h:CallC P f args res
def aM.a {P:Program} (it:aM P):dD P:=⟨it.i,it.f,it.args,it.res⟩
def gQ (P:Program) (items:List (dD P)):Prop:= ∀it∈items,CallC P it.f it.args it.res
theorem aM.ok {P:Program} (items:List (aM P)):gQ P (items.map aM.a):=fun it hit=>by
 obtain⟨x,_,rfl⟩:=List.mem_map.1 hit;exact x.h
def ia (H:OH):TV->TV
 | .one (.sl a r off len)=>match(H a)[r]? with
  |some o=> .one (.p (.sl ((((o.elems.take (off+len)).drop off)).map (List.map unP))))
  |none=> .one .junk
 | .one (.p (.raw (.slice none 0 0)))=> .one (.p (.sl []))
 |t=>t
def eE (own:Bool) (H:OH):TV->Bool
 | .one (.sl a r _ _)=>own&&match(H a)[r]? with
  |some o=>o.elems.all fun e=>e.all isPure
  |none=>false
 | .one (.p _)=>true
 | .agg cs=>cs.all isPure
 | .fn _ cs=>cs.all isPure
 |_=>false
def newsOf (H:OH):TV->Option (List (List AV))
 | .one (.p (.sl xs))=>some (xs.map (List.map AV.p))
 | .one (.p (.raw (.slice none 0 0)))=>some []
 | .one (.sl a r off len)=>match(H a)[r]? with
  |some o=>if o.elems.all fun e=>e.all isPure then some ((o.elems.take (off+len)).drop off)else none
  |none=>none
 |_=>none
def pS (ev:Operand->Option TV) (n:Nat):Nat->List (Nat×Operand)->Option (List (List AV))
 |_,[]=>some []
 |i,(k,x)::rest=>match(ev x).bind cellsOf,pS ev n (i+1) rest with
  |some cs,some l=>if k=i/\cs.length=n/\cs.all isPure then some (cs::l)else none
  |_,_=>none
open Classical in
noncomputable def di (P:Program) (items:List (dD P)) (ow:List Nat) (i d:Nat) (ev:Operand->Option TV) (H:OH):Op->Option (TV×List OObj)
 | .box e x=>match(ev x).bind cellsOf with
  |some cs=>if cs.all isPure/\0<cs.length then some (.one (.ptr d 0 0 0),[⟨e,cs.length,[cs]⟩])else none
  |none=>none
 | .alloc e=>match zeroO P e with
  |some z=>if z.all (·.oneCell')/\0<z.length then some (.one (.ptr d 0 0 0),[⟨e,z.length,[z.map AV.raw]⟩])else none
  |none=>none
 | .makeSlice t l c=>match ev l,ev c,sliceO P t with
  |some (.one (.p (.raw (.int _ n)))),some (.one (.p (.raw (.int _ m)))),some e=>match zeroO P e,szO P e,byO P e with
   |some z,some sz,some by_=>if 0<=n/\n<=m/\m<=9223372036854775807/\(by_:Int)*m<=281474976710656/\z.length=sz/\0<sz/\z.all (·.oneCell')then
     some (.one (.sl d 0 0 n.toNat),[⟨e,sz,List.replicate n.toNat (z.map AV.raw)⟩])else none
   |_,_,_=>none
  |_,_,_=>none
 | .buildSlice t n parts=>match sliceO P t with
  |some e=>match zeroO P e,szO P e with
   |some z,some sz=>match pS ev sz 0 parts.toList with
    |some l=>if l.length=n/\n*sz<=16777216/\z.length=sz/\0<sz then
      if ow.contains d then some (.one (.sl d 0 0 n),[⟨e,sz,l⟩])else some (.one (.p (.sl (l.map (List.map unP)))),[])else none
    |none=>none
   |_,_=>none
  |none=>none
 | .call c=>match c.callee with
  | .value (.func f)=>match items.find? (·.i==i),f6 ev c.args.toList with
   |some it,some ts=>if it.f=f/\ts.map (ia H)=it.args/\ts.all (eE it.res.plain H)/\(!it.res.fam.isEmpty||noRefTV it.res.r)then some (renTV d it.res.r,it.res.fam.map (renO d))else none
   |_,_=>none
  | .value (.tmp k)=>match Iq (ev (.tmp k)),items.find? (·.i==i),f6 ev c.args.toList with
   |some (f,extra),some it,some ts=>if it.f=f/\(ts++extra).map (ia H)=it.args/\(ts++extra).all (eE it.res.plain H)/\(!it.res.fam.isEmpty||noRefTV it.res.r)then some (renTV d it.res.r,it.res.fam.map (renO d))else none
   |_,_,_=>none
  | .builtin .append=>match c.args.toList,c.argTypes.toList with
   |[s,x],[t,t']=>match ev s,(ev x).bind (newsOf H),sliceO P t with
    |some (.one (.p (.raw (.slice none 0 0)))),some news,some e=>match zeroO P e,szO P e,byO P e with
     |some z,some sz,some by_=>if t=t'/\news.length*by_<=140737488355328/\news.length<=9223372036854775807/\z.length=sz/\0<sz/\(∀e∈news,e.length=sz)then
       some (.one (.sl d 0 0 news.length),[⟨e,sz,news⟩])else none
     |_,_,_=>none
    |_,_,_=>none
   |_,_=>none
  |_=>none
 |_=>none
def dp (e:List AV) (j:Nat) (cs:List AV):List AV:=e.take j++cs++e.drop (j+cs.length)
structure Dz where
 t:TV
 H:OH
 k:Nat->Nat->Bool
def gG (P:Program) (ev:Operand->Option TV) (H:OH):Op->Option Dz
 | .store t a x=>match ev a,szO P t with
  |some (.one (.ptr a r i j)),some n=>match(H a)[r]? with
   |some o=>match o.elems[i]? with
    |some e=>match ev x with
     |some (.one (.sl a' r' off len))=>
      if a'=a then
       if n=1/\j<e.length then some ⟨.undef,be H a ((H a).set r {o with elems:=o.elems.set i (dp e j [.sl a' r' off len])}),fun _ _=>false⟩else none
      else match H a' with
       |[ob]=>if a'<=4999/\r'=0/\off=0/\len=ob.elems.length/\n=1/\j<e.length/\ob.elems.all (fun e=>e.all isPure)then
         some ⟨.undef,be (be H a ((H a).set r {o with elems:=o.elems.set i (dp e j [.sl a (H a).length 0 len])}++[ob])) a' [],fun x _=>x==a'⟩else none
       |_=>none
     |some v=>match cellsOf v with
      |some cs=>if cs.length=n/\j+n<=e.length/\cs.all isPure then
        some ⟨.undef,be H a ((H a).set r {o with elems:=o.elems.set i (dp e j cs)}),fun _ _=>false⟩else none
      |none=>none
     |none=>none
    |none=>none
   |none=>none
  |_,_=>none
 | .call c=>match c.callee,c.args.toList,c.argTypes.toList with
  | .builtin .append,[s,x],[t,t']=>match ev s,(ev x).bind (newsOf H),sliceO P t with
   |some (.one (.sl a r off len)),some news,some e=>match(H a)[r]?,zeroO P e,szO P e,byO P e with
    |some o,some z,some sz,some by_=>if a<=4999/\t=t'/\o.ty=e/\o.es=sz/\o.elems.all (fun e=>e.all isPure)/\off=0/\len=o.elems.length/\(len+news.length)*by_<=140737488355328/\len+news.length<=9223372036854775807/\z.length=sz/\(∀e∈news,e.length=sz)then
      some ⟨.one (.sl a r 0 (len+news.length)),be H a (((H a).map (iz fun x y=>x==a&&y==r)).set r {o with elems:=o.elems++news}),fun x y=>x==a&&y==r⟩else none
    |_,_,_,_=>none
   |_,_,_=>none
  |_,_,_=>none
 |_=>none
noncomputable def eI (P:Program) (items:List (dD P)) (ow:List Nat) (i:Nat) (o:Oper) (s:AS):Option AS:=
 if ud o.op then(jc P s.ev o.op).map (s.put o.dst)
 else if Ou o.op then(cj P s.ev s.H o.op).map (s.put o.dst)
 else match gG P s.ev s.H o.op with
  |some q=>some (AS.put ⟨s.tmps.map (bo q.k),q.H⟩ o.dst q.t)
  |none=>match o.dst with
   |none=>none
   |some d=>match di P items ow i d s.ev s.H o.op with
    |some (t,[])=>some (s.put (some d) t)
    |some (t,F)=>match s.H d with
     |[]=>some (AS.put ⟨s.tmps,be s.H d F⟩ (some d) t)
     |_=>none
    |none=>none
noncomputable def bZ (P:Program) (items:List (dD P)) (ow:List Nat) (ops:Array Oper) (i:Nat) (o:Oper) (s:AS):Option AS:=
 match o.guard with
 |none=>eI P items ow i o s
 |some (g,want)=>match(ops[g]?).bind (·.dst)with
  |none=>none
  |some d=>match s.tmps[d]? with
   |some (.one (.p (.raw (.bool b))))=>if b=want then eI P items ow i o s else some (s.put o.dst .undef)
   |some (.tup [])=>some (s.put o.dst .undef)
   |_=>none
noncomputable def jq (P:Program) (items:List (dD P)) (ow:List Nat) (ops:Array Oper):List (Oper×Nat)->AS->Option AS
 |[],s=>some s
 |(o,i)::rest,s=>match bZ P items ow ops i o s with
  |some s'=>jq P items ow ops rest s'
  |none=>none
section
section
variable {P:Program} {ρ:Rho} {H:OH} {X:Nat->Prop} {w:World}
def iK (ρ:Rho) (H:OH) (X:Nat->Prop) (w:World) (ev:Operand->Option TV) (e:Operand->Value):Prop:= ∀x t,ev x=some t->TV.rel ρ H X w t (e x)
theorem bO {a v:Value} (h:TV.rel ρ H X w (.raw a) v):v=a/\a.oneCell'=true:=by
 cases h with
 |raw v h=>exact⟨rfl,h⟩
theorem dC {a:Value} (h:a.oneCell'=true):TV.rel ρ H X w (.raw a) a:=cu.raw a h
theorem Cp (v:Value):TV.rel ρ H X w (oV v) v:=by
 unfold oV;split
 ·rename_i cs;split
  ·rename_i h;simp only[List.all_eq_true]at h;refine⟨cs,rfl,by simp,fun j x hx=>?_⟩;rw[List.getElem?_map]at hx;cases hj:cs.toList[j]? with
   |none=>rw[hj]at hx;cases hx
   |some u=>
    rw[hj]at hx;simp at hx;subst hx;have h1:u.oneCell'=true:=h u (List.mem_of_getElem? hj);exact⟨u,by simpa using hj,h1,cu.raw u h1⟩
  exact trivial
 split
 ·exact cu.raw _ (by assumption)
 exact trivial
theorem BI {op:BinOp} {a b v:Value} {t:TypeId} (h:xY (uY P t) op a b=some v) (x y:Operand):
  (do eqGuard op t x y a b;binOp op t a b:Sem Value).run P w= .ok v w/\v.oneCell'=true:=by
 unfold xY at h;split at h
 case h_1|h_2|h_3|h_8|h_9|h_10|h_11|h_12|h_13|h_14|h_15|h_16|h_17=>
  split at h
  ·rename_i hk;subst hk;injection h with h
   subst h;refine⟨?_,rfl⟩;show(if _≠_ then _ else _:Sem Value).run P w=_;rw[if_neg (fun h=>h rfl)];rfl
  cases h
 case h_4|h_5=>
  split at h
  ·rename_i hk;obtain⟨hk,hb⟩:=hk;subst hk;injection h with h
   subst h;refine⟨?_,rfl⟩;show(if _≠_ then _ else(if _=_ then _ else _):Sem Value).run P w=_;rw[if_neg (fun h=>h rfl),if_neg hb];rfl
  cases h
 case h_6|h_7=>
  split at h
  ·rename_i hb;injection h with h
   subst h;refine⟨?_,rfl⟩;show(if _<_ then _ else _:Sem Value).run P w=_;rw[if_neg (by omega)];rfl
  cases h
 case h_18|h_19=>
  split at h
  ·rename_i hb;injection h with h
   subst h;have ht:P.underlying t=some .bool:=by
    unfold uY at hb;split at hb
    ·assumption
    cases hb
   refine⟨?_,rfl⟩
   first
    |exact run_eql_bool w t _ _ ht
    |exact run_neq_bool w t _ _ ht
  cases h
 case h_20=>cases h
theorem En {op:UnOp} {a v:Value} (h:II op a=some v):(Op.unary op a).run P w= .ok v w/\v.oneCell'=true:=by
 unfold II at h;split at h
 ·injection h with h;subst h;exact⟨rfl,rfl⟩
 ·injection h with h;subst h;exact⟨rfl,rfl⟩
 cases h
theorem ee {s:Sem Value} {v:Value} {w':World} (h:s.run P w= .ok v w'):(do pure (Next.value (<- s)):Sem Next).run P w= .ok (.value v) w':=by
 rw[Sem.run_bind,h];rfl
theorem UY {s:Sem Unit} {w':World} (h:s.run P w= .ok () w'):(do s;pure Next.skip:Sem Next).run P w= .ok .skip w':=by
 rw[Sem.run_bind,h];rfl
theorem ja {t e:TypeId} {n:Nat} (h:me P t=some (n,e)):P.underlying t=some (.array n e):=by
 unfold me at h;cases hu:P.underlying t with
 |none=>rw[hu]at h;cases h
 |some d=>rw[hu]at h;cases d<;>simp at h;rw[h.1,h.2]
theorem mS {d k0:Nat} {e:TypeId} {kk:IntKind} (hu:P.underlying e=some (.int kk)) (hag:(isAgg e).run P w= .ok false w) {vs us:Array Value}: ∀(xs ys:List AV) (m:Nat) (b:Bool),Em xs ys=some b->
  (∀(j:Nat) x,xs[j]?=some x-> ∃u:Value,vs[m+j]?=some u/\x.rel ρ H X w u)->(∀(j:Nat) x,ys[j]?=some x-> ∃u:Value,us[m+j]?=some u/\x.rel ρ H X w u)->
  (Op.eqItems (d+1) e 1 vs us (List.range' m xs.length)).run P w= .ok b w
 |[],[],m,b,h,_,_=>by
  simp only[Em]at h;injection h with h
  subst h;simp[Op.eqItems]
 | .p (.raw (.int k a))::xs,.p (.raw (.int k' b'))::ys,m,b,h,h1,h2=>by
  simp only[Em]at h;split at h
  ·rename_i c hc;split at h
   ·rename_i hk;subst hk;injection h with h
    subst h;obtain⟨u,u1,u2⟩:=h1 0 _ rfl;obtain⟨u',u3,u4⟩:=h2 0 _ rfl;have e1:=(bO (H:=H) (ρ:=ρ) (X:=X) (w:=w) (v:=u) u2).1;have e2:=(bO (H:=H) (ρ:=ρ) (X:=X) (w:=w) (v:=u') u4).1;subst e1 e2;have ih:=mS (d:=d) (k0:=k0) hu hag (vs:=vs) (us:=us) xs ys (m+1) c hc (fun j x hx=>by
     have:=h1 (j+1) x (by simpa using hx);rwa[show m+1+j=m+(j+1) by omega]) (fun j x hx=>by
     have:=h2 (j+1) x (by simpa using hx);rwa[show m+1+j=m+(j+1) by omega])
    simp only[List.length_cons,List.range'_succ,Op.eqItems,Sem.run_bind];have p1:(part e vs (m*1)).run P w= .ok (.int k a) w:=by
     unfold part;rw[Sem.run_bind,hag,aj,if_neg (by simp),Nat.mul_one,show vs[m]?=_ from u1];rfl
    have p2:(part e us (m*1)).run P w= .ok (.int k b') w:=by
     unfold part;rw[Sem.run_bind,hag,aj,if_neg (by simp),Nat.mul_one,show us[m]?=_ from u3];rfl
    rw[p1,aj,p2,aj];have p3:(Op.equalIn (d+1) e (.int k a) (.int k b')).run P w= .ok (a==b') w:=by
     simp[Op.equalIn,Sem.run_bind,run_underlying hu]
    rw[p3,aj];by_cases hab:a=b'
    ·subst hab;simp[ih]
    simp[hab]
   cases h
  cases h
 |[],_::_,_,_,h,_,_=>by simp[Em]at h
 | .p (.raw (.int _ _))::_,[],_,_,h,_,_=>by simp[Em]at h
theorem BG {op:BinOp} {t:TypeId} {xs ys:List AV} {T:TV} (h:xX P op t xs ys=some T) {vs us:Value} (hv:bX ρ H X w xs vs) (hu:bX ρ H X w ys us) (x y:Operand):
  ∃v,(do eqGuard op t x y vs us;binOp op t vs us:Sem Value).run P w= .ok v w/\T.rel ρ H X w v:=by
 obtain⟨vs,rfl,v1,v2⟩:=hv;obtain⟨us,rfl,u1,u2⟩:=hu;have key: ∀n b,zc P t=some n->Em xs ys=some b->xs.length=n->(Op.equalIn 10000 t (.agg vs) (.agg us)).run P w= .ok b w/\P.eqGuardType P.depth t=false:=fun n b hn hb hl=>by
  unfold zc at hn;split at hn
  ·rename_i m e ha;split at hn
   ·rename_i hc;obtain⟨c1,c2,c3,c4⟩:=hc;injection hn with hn
    subst hn;refine⟨?_,c4⟩;obtain⟨kk,hk⟩: ∃kk,P.underlying e=some (.int kk):=by
     unfold xk at c1;cases hu:P.underlying e with
     |none=>rw[hu]at c1;exact absurd rfl c1
     |some d=>rw[hu]at c1;cases d<;>first|exact⟨_,rfl⟩|exact absurd rfl c1
    obtain⟨i,hi,hsz⟩: ∃i,P.info? e=some i/\i.size=1:=by
     unfold szO at c3;cases hi:P.info? e with
     |none=>rw[hi]at c3;cases c3
     |some i=>rw[hi]at c3;simp at c3;exact⟨i,rfl,c3⟩
    have hag:(isAgg e).run P w= .ok false w:=by
     unfold isAgg;rw[Sem.run_bind,run_underlying hk,aj];rfl
    rw[show(10000:Nat)=9999+1 from rfl,run_equalIn_array w 9999 vs us (ja ha) hi];have hcs:P.cellsOf e=1:=by simp[Program.cellsOf,hi,hsz]
    rw[hcs,List.range_eq_range',<- hl];exact mS (d:=9998) (k0:=0) hk hag xs ys 0 b hb (fun j x hx=>by obtain⟨u,h1,_,h2⟩:=v2 j x hx;exact⟨u,by simpa using h1,h2⟩) (fun j x hx=>by obtain⟨u,h1,_,h2⟩:=u2 j x hx;exact⟨u,by simpa using h1,h2⟩)
   cases hn
  cases hn
 have guard: ∀op',P.eqGuardType P.depth t=false->(eqGuard op' t x y (.agg vs) (.agg us)).run P w= .ok () w:=fun op' hg=>by
  cases op'<;>first|rfl|simp[eqGuard,hg]
 unfold xX at h;split at h
 ·rename_i n b hn hb;split at h
  ·rename_i hl;injection h with h
   subst h;obtain⟨k1,k2⟩:=key n b hn hb hl;refine⟨.bool b,?_,dC rfl⟩;rw[Sem.run_bind,guard _ k2,aj,run_eql_struct,k1];rfl
  cases h
 ·rename_i n b hn hb;split at h
  ·rename_i hl;injection h with h
   subst h;obtain⟨k1,k2⟩:=key n b hn hb hl;refine⟨.bool !b,?_,dC rfl⟩;rw[Sem.run_bind,guard _ k2,aj];show((do let r<- Op.equal t (.agg vs) (.agg us);pure (.bool !r):Sem Value)).run P w=_;rw[Sem.run_bind];have:(Op.equal t (.agg vs) (.agg us)).run P w= .ok b w:=k1;rw[this];rfl
  cases h
 cases h
theorem v6 {t:TV} {b:Bool} {v:Value} (h:vY t=some b) (hr:t.rel ρ H X w v): ∃a n c,v= .slice a n c/\(b=true↔a=none):=by
 unfold vY at h;split at h
 ·injection h with h
  subst h;have:=(bO hr).1;exact⟨none,_,_,this,by simp⟩
 ·injection h with h
  subst h;have hr:cu X w _ v:=hr;cases hr with
  |sl=>exact⟨_,_,_,rfl,by simp⟩
 cases h
theorem Cn {op:BinOp} {t:TypeId} {tx ty:Option TV} {T:TV} (h:ym P op t tx ty=some T) {v u:Value} (hv: ∀x,tx=some x->x.rel ρ H X w v) (hu: ∀x,ty=some x->x.rel ρ H X w u) (x y:Operand):
  ∃r,(do eqGuard op t x y v u;binOp op t v u:Sem Value).run P w= .ok r w/\T.rel ρ H X w r:=by
 have key: ∀e b,sliceO P t=some e->tx.bind vY=some b->ty.bind vY=some true-> ∃a n c m k,v= .slice a n c/\u= .slice none m k/\(Op.equal t v u).run P w= .ok b w:=fun e b he hb hy=>by
  obtain⟨x1,hx1,hx2⟩:=Option.bind_eq_some_iff.1 hb;obtain⟨y1,hy1,hy2⟩:=Option.bind_eq_some_iff.1 hy;obtain⟨a,n,c,rfl,ha⟩:=v6 hx2 (hv _ hx1);obtain⟨a',m,k,rfl,ha'⟩:=v6 hy2 (hu _ hy1);have ha':=ha'.1 rfl;subst ha';refine⟨a,n,c,m,k,rfl,rfl,?_⟩;have hun:P.underlying t=some (.slice e):=by
   unfold sliceO at he;cases hu:P.underlying t with
   |none=>rw[hu]at he;cases he
   |some d=>rw[hu]at he;cases d<;>simp at he;rw[he]
  suffices hd: ∀d,(Op.equalIn (d+1) t (.slice a n c) (.slice none m k)).run P w= .ok b w from hd 9999
  intro d;cases a with
  |none=>
   rw[ha.2 rfl];simp[Op.equalIn,Sem.run_bind,run_underlying hun]
  |some a=>
   have:b=false:=by
    cases b with
    |false=>rfl
    |true=>exact absurd (ha.1 rfl) (by simp)
   subst this;simp[Op.equalIn,Sem.run_bind,run_underlying hun]
 unfold ym at h;split at h
 ·rename_i e b he hb hy;injection h with h
  subst h;obtain⟨a,n,c,m,k,rfl,rfl,hq⟩:=key _ _ he hb hy;refine⟨.bool b,?_,dC rfl⟩;rw[Sem.run_bind,show(eqGuard .eql t x y (.slice a n c) (.slice none m k)).run P w= .ok () w from rfl,aj];show((do let r<- Op.equal t (.slice a n c) (.slice none m k);pure (.bool r):Sem Value)).run P w=_;rw[Sem.run_bind,hq];rfl
 ·rename_i e b he hb hy;injection h with h
  subst h;obtain⟨a,n,c,m,k,rfl,rfl,hq⟩:=key _ _ he hb hy;refine⟨.bool !b,?_,dC rfl⟩;rw[Sem.run_bind,show(eqGuard .neq t x y (.slice a n c) (.slice none m k)).run P w= .ok () w from rfl,aj];show((do let r<- Op.equal t (.slice a n c) (.slice none m k);pure (.bool !r):Sem Value)).run P w=_;rw[Sem.run_bind,hq];rfl
 cases h
theorem lN {f:Int->Int->Int} {l:List (Option TV)} {t:TV} (h:RA f l=some t): ∃k k' a b,l=[some (.one (.p (.raw (.int k a)))),some (.one (.p (.raw (.int k' b))))]/\t= .raw (.int k (f a b)):=by
 unfold RA at h;split at h
 ·injection h with h;exact⟨_,_,_,_,rfl,h.symm⟩
 cases h
theorem zV {α β:Type} {f:α->β} {l:List α} {x y:β} (h:l.map f=[x,y]): ∃a b,l=[a,b]/\f a=x/\f b=y:=by
 match l,h with
 |[a,b],h=>simp at h;exact⟨a,b,rfl,h.1,h.2⟩
theorem Ef {ev:Operand->Option TV} {e:Operand->Value} (hev:iK ρ H X w ev e) {o:Oper} {t:TV} (h:jc P ev o.op=some t):
  ∃v,(execOp e o).run P w= .ok (.value v) w/\t.rel ρ H X w v:=by
 unfold execOp;cases ho:o.op<;>rw[ho]at h<;>simp only[jc]at h<;>try cases h
 case call c=>
  obtain⟨callee,args,argTypes⟩:=c;unfold UU at h;split at h
  ·rename_i hc;simp only at hc;subst hc;obtain⟨k,k',a,b,hl,rfl⟩:=lN h;obtain⟨x,y,hxy,h1,h2⟩:=zV hl;obtain⟨args⟩:=args;simp only at hxy;subst hxy;refine⟨_,?_,dC rfl⟩;have e1:=(bO (hev x _ h1)).1;have e2:=(bO (hev y _ h2)).1;simp only[resolve,invoke,builtin,Sem.run_bind,Sem.run_pure,aj,List.map_toArray,List.map_cons,List.map_nil,e1,e2];rfl
  ·rename_i hc;simp only at hc;subst hc;obtain⟨k,k',a,b,hl,rfl⟩:=lN h;obtain⟨x,y,hxy,h1,h2⟩:=zV hl;obtain⟨args⟩:=args;simp only at hxy;subst hxy;refine⟨_,?_,dC rfl⟩;have e1:=(bO (hev x _ h1)).1;have e2:=(bO (hev y _ h2)).1;simp only[resolve,invoke,builtin,Sem.run_bind,Sem.run_pure,aj,List.map_toArray,List.map_cons,List.map_nil,e1,e2];rfl
  cases h
 case move x=>exact⟨_,rfl,hev x t h⟩
 case assign x=>exact⟨_,rfl,hev x t h⟩
 case pick c a b=>
  split at h
  ·rename_i hc;have:=(bO (hev c _ hc)).1;refine⟨e a,?_,hev a t h⟩;simp only[this];rfl
  ·rename_i hc;have:=(bO (hev c _ hc)).1;refine⟨e b,?_,hev b t h⟩;simp only[this];rfl
  cases h
 case binOp op ty x y yt=>
  split at h
  ·obtain⟨v,h3,h4⟩:=Cn h (fun t ht=>hev x t ht) (fun t ht=>hev y t ht) x y;exact⟨v,ee h3,h4⟩
  split at h
  ·rename_i a b ha hb;have h1:=(bO (hev x _ ha)).1;have h2:=(bO (hev y _ hb)).1;cases hv:xY (uY P ty) op a b with
   |none=>rw[hv]at h;cases h
   |some v=>
    rw[hv]at h;simp at h;subst h;obtain⟨h3,h4⟩:=BI (P:=P) (w:=w) hv x y;refine⟨v,?_,dC h4⟩;simp only[h1,h2];exact ee h3
  ·rename_i xs ys ha hb;obtain⟨v,h3,h4⟩:=BG h (hev x _ ha) (hev y _ hb) x y;exact⟨v,ee h3,h4⟩
  cases h
 case unOp op ty x=>
  split at h
  ·rename_i a ha;have h1:=(bO (hev x _ ha)).1;cases hv:II op a with
   |none=>rw[hv]at h;cases h
   |some v=>
    rw[hv]at h;simp at h;subst h;obtain⟨h3,h4⟩:=En (P:=P) (w:=w) hv;refine⟨v,?_,dC h4⟩;simp only[h1];exact ee h3
  cases h
 case convert src dst x=>
  split at h
  ·rename_i k n ds k' ha hs hk;have h1:=(bO (hev x _ ha)).1;injection h with h
   subst h;have hd:P.underlying dst=some (.int k'):=by
    unfold xk at hk;cases hu:P.underlying dst with
    |none=>rw[hu]at hk;cases hk
    |some d=>rw[hu]at hk;cases d<;>simp at hk;rw[hk]
   refine⟨_,?_,dC rfl⟩;simp only[h1];refine ee ?_;unfold convert;rw[Sem.run_bind,run_underlying hs,aj,Sem.run_bind,run_underlying hd,aj];rfl
  cases h
 case extract x i=>
  split at h
  ·rename_i ts ha;obtain⟨vs,hvs,hsz,hr⟩:=hev x _ ha;split at h
   ·rename_i cs hi;injection h with h
    subst h;obtain⟨u,hu,hc⟩:=hr i _ _ hi;rcases hc with⟨_,hc⟩|⟨hc,_⟩
    ·refine⟨u,?_,hc⟩;refine ee ?_;simp only[hvs,Instr.extract,hu];rfl
    cases hc
   ·rename_i y hi;injection h with h
    subst h;obtain⟨u,hu,hc⟩:=hr i _ _ hi;rcases hc with⟨hc,_⟩|⟨_,z,hz,hc⟩
    ·cases hc
    injection hz with hz
    subst hz;refine⟨u,?_,hc⟩;refine ee ?_;simp only[hvs,Instr.extract,hu];rfl
   cases h
  cases h
end
end
section
section
variable {P:Program} {ρ:Rho} {H:OH} {X:Nat->Prop} {w:World}
theorem oo {t:TypeId} {n:Nat} (h:szO P t=some n): ∃i,P.info? t=some i/\i.size=n:=by
 unfold szO at h;cases hi:P.info? t with
 |none=>rw[hi]at h;cases h
 |some i=>rw[hi]at h;simp at h;exact⟨i,rfl,h⟩
theorem Ar {t:TypeId} {i:TypeInfo} (h:P.info? t=some i):(typeInfo t).run P w= .ok i w:=by
 unfold typeInfo;show (match P.info? t with | some i => pure i | none => stuck "no such type" : Sem TypeInfo).run P w = _;rw[h];rfl
theorem ew {t:TypeId} {n:Nat} (h:szO P t=some n):(sizeOf t).run P w= .ok n w:=by
 obtain⟨i,hi,hn⟩:=oo h;unfold sizeOf;rw[Sem.run_bind,Ar hi,aj,hn];rfl
theorem rq {t:TypeId} {b:Bool} (h:kD P t=some b):(isAgg t).run P w= .ok b w:=by
 unfold kD at h;cases hu:P.underlying t with
 |none=>rw[hu]at h;cases h
 |some d=>
  rw[hu]at h;unfold isAgg;rw[Sem.run_bind,run_underlying hu,aj];cases d<;>simp at h<;>subst h<;>rfl
theorem dQ {t e:TypeId} (h:sliceO P t=some e):P.underlying t=some (.slice e):=by
 unfold sliceO at h;cases hu:P.underlying t with
 |none=>rw[hu]at h;cases h
 |some d=>rw[hu]at h;cases d<;>simp at h;rw[h]
theorem nA {t:TypeId} {f off:Nat} {ft:TypeId} (h:gH P t f=some (off,ft)): ∃fs d,P.underlying t=some (.struct fs)/\fs[f]?=some d/\d.offset=off/\d.type=ft:=by
 unfold gH at h;cases hu:P.underlying t with
 |none=>rw[hu]at h;cases h
 |some d=>
  rw[hu]at h;cases d<;>simp at h;rename_i fs;obtain⟨d,hd,h1,h2⟩:=h;exact⟨fs,d,rfl,hd,h1,h2⟩
def mj (ρ:Rho) (H:OH) (X:Nat->Prop) (w:World) (b off:Nat) (cs:List AV):Prop:=
 ∀(j:Nat) x,cs[j]?=some x-> ∃v:Value,w.cell? ⟨b,off+j,none⟩=some v/\v.oneCell'=true/\x.rel ρ H X w v
theorem mm {b off:Nat} {cs:List AV} (h:mj ρ H X w b off cs) (k:Nat):mj ρ H X w b (off+k) (cs.drop k):=by
 intro j x hx;rw[List.getElem?_drop]at hx;obtain⟨v,h1,h2⟩:=h _ _ hx;exact⟨v,by rw[<- Nat.add_assoc]at h1;exact h1,h2⟩
theorem zj {b off:Nat} {cs:List AV} (h:mj ρ H X w b off cs):
  ∃vs:List Value,vs.length=cs.length/\(∀(j:Nat) v,vs[j]?=some v->w.cell? ((⟨b,off,none⟩:Addr).add j)=some v)/\(∀(j:Nat) x,cs[j]?=some x-> ∃u:Value,vs[j]?=some u/\u.oneCell'=true/\x.rel ρ H X w u):=by
 induction cs generalizing off with
 |nil=>exact⟨[],rfl,fun j v hv=>by simp at hv,fun j x hx=>by simp at hx⟩
 |cons c cs ih=>
  obtain⟨v,h1,h2,h3⟩:=h 0 c rfl;obtain⟨vs,l1,l2,l3⟩:=ih (off:=off+1) (mm (cs:=c::cs) h 1);refine⟨v::vs,by simp[l1],fun j u hu=>?_,fun j x hx=>?_⟩
  ·cases j with
   |zero=>simp at hu;subst hu;simpa[Addr.add_lit] using h1
   |succ j=>
    simp at hu;have:=l2 j u hu;rw[Addr.add_lit]at this⊢;rw[<- this];congr 2;omega
  cases j with
  |zero=>simp at hx;subst hx;exact⟨v,rfl,h2,h3⟩
  |succ j=>simp at hx;obtain⟨u,h⟩:=l3 j x hx;exact⟨u,by simpa using h.1,h.2⟩
theorem mt {t:TypeId} {cs:List AV} {T:TV} {b off:Nat} (h:packT P t cs=some T) (hc:mj ρ H X w b off cs):
  ∃v,(loadVar t ⟨b,off,none⟩).run P w= .ok v w/\T.rel ρ H X w v:=by
 unfold packT at h;split at h
 ·rename_i n hn ha;split at h
  ·rename_i hl;injection h with h
   subst h;obtain⟨vs,l1,l2,l3⟩:=zj (cs:=cs.take n) (b:=b) (off:=off) (fun j x hx=>by
    rw[List.getElem?_take]at hx;split at hx
    ·exact hc j x hx
    cases hx)
   refine⟨.agg vs.toArray,?_,vs.toArray,rfl,by simp[l1],fun j x hx=>?_⟩
   ·unfold loadVar;rw[Sem.run_bind,rq ha,aj,if_pos rfl,Sem.run_bind,ew hn,aj];have:=run_loadCells_list (P:=P) w ⟨b,off,none⟩ vs l2;rw[show vs.length=n by rw[l1,List.length_take];omega]at this;rw[Sem.run_bind,this];rfl
   simpa using l3 j x hx
  cases h
 ·rename_i hn ha;split at h
  ·rename_i x l;injection h with h
   subst h;obtain⟨v,h1,h2,h3⟩:=hc 0 x rfl;refine⟨v,?_,h3⟩;unfold loadVar;rw[Sem.run_bind,rq ha,aj,if_neg (by simp),run_load];simp only[Nat.add_zero]at h1;rw[h1]
  cases h
 cases h
theorem iZ {cs:List PV} {v:Value} (h:cu X w (.ptr cs) v): ∃b off,v= .pointer (some ⟨b,off,none⟩)/\ ¬X b/\mj ρ H X w b off (cs.map AV.p):=by
 cases h with
 |ptr b off cs f hX hb hc hr=>
  refine⟨b,off,rfl,hX,fun j x hx=>?_⟩;rw[List.getElem?_map]at hx;cases hj:cs[j]? with
  |none=>rw[hj]at hx;cases hx
  |some y=>
   rw[hj]at hx;simp at hx;subst hx;exact⟨f j,hc j y hj,(hr j y hj).one,hr j y hj⟩
theorem rj {cs:List PV} {b off k:Nat} (h:cu X w (.ptr cs) (.pointer (some ⟨b,off,none⟩))):cu X w (.ptr (cs.drop k)) (.pointer (some ⟨b,off+k,none⟩)):=by
 cases h with
 |ptr b off cs f hX hb hc hr=>
  refine .ptr b (off+k) (cs.drop k) (fun j=>f (k+j)) hX hb (fun j x hx=>?_) (fun j x hx=>?_)
  ·rw[List.getElem?_drop]at hx;rw[Nat.add_assoc];exact hc _ _ hx
  rw[List.getElem?_drop]at hx;exact hr _ _ hx
theorem yp {a r:Nat} {o:OObj} {b c i:Nat} {e:List AV} (ho:objRel ρ H X w a r o) (hρ:ρ a r=some (b,c)) (he:o.elems[i]?=some e):mj ρ H X w b (i*o.es) e:=by
 obtain⟨_,_,h3⟩:=ho;rw[hρ]at h3;obtain⟨cells,hh,_,_,_,hv⟩:=h3;intro j x hx;obtain⟨v,h1,h2,h3⟩:=hv i e j x he hx;refine⟨v,?_,h2,h3⟩;unfold World.cell?;simp only[hh];exact h1
theorem pV {z:Int} {n:Nat} (h:yi z=some n):0<=z/\z.toNat=n:=by
 unfold yi at h;split at h
 ·injection h with h;exact⟨by assumption,h⟩
 cases h
theorem IH {ev:Operand->Option TV} {e:Operand->Value} (hev:iK ρ H X w ev e) (hob: ∀(a r:Nat) (o:OObj),(H a)[r]?=some o->objRel ρ H X w a r o)
  {o:Oper} {t:TypeId} {x:Operand} {T:TV} (ho:o.op= .load t x) (h:cj P ev H o.op=some T): ∃v,(execOp e o).run P w= .ok (.value v) w/\T.rel ρ H X w v:=by
 unfold execOp;rw[ho]at h⊢;simp only[cj]at h;split at h
 ·rename_i cs hx;obtain⟨b,off,hv,hX,hc⟩:=iZ (ρ:=ρ) (H:=H) (hev x _ hx);obtain⟨v,h1,h2⟩:=mt h hc;refine⟨v,ee ?_,h2⟩;rw[hv];exact h1
 ·rename_i a r i j hx;obtain⟨o',b,c,h1,h2,h3,hv⟩:=hev x _ hx;split at h
  ·rename_i o'' ho';rw[h1]at ho';injection ho' with ho'
   subst ho';split at h
   ·rename_i el hel;obtain⟨v,g1,g2⟩:=mt h (mm (yp (hob a r _ h1) h2 hel) j);refine⟨v,ee ?_,g2⟩;rw[hv];exact g1
   cases h
  cases h
 cases h
theorem vw {ev:Operand->Option TV} {e:Operand->Value} (hev:iK ρ H X w ev e) (hob: ∀(a r:Nat) (o:OObj),(H a)[r]?=some o->objRel ρ H X w a r o)
  {o:Oper} {t:TypeId} {x ix:Operand} {T:TV} (ho:o.op= .indexAddr t x ix) (h:cj P ev H o.op=some T): ∃v,(execOp e o).run P w= .ok (.value v) w/\T.rel ρ H X w v:=by
 unfold execOp;rw[ho]at h⊢;simp only[cj]at h;split at h
 ·rename_i k n hix;have hn:=(bO (hev ix _ hix)).1;split at h
  ·cases h
  rename_i i hi;obtain⟨h0,hi⟩:=pV hi;split at h
  ·rename_i el xs hs hx;have hx:=hev x _ hx;split at h
   ·rename_i c hc;split at h
    ·rename_i hsz;injection h with h
     subst h;generalize hvx:e x=vx at*
     have hil:i<xs.length:=(List.getElem?_eq_some_iff.1 hc).1;cases hx with
     |nil a c=>simp at hil
     |sl b off es cap xs f hX hb hes hcap hm hcell hrep=>
      have hes':c.length=es:=hes c (List.mem_of_getElem? hc);refine⟨.pointer (some ⟨b,off+i*es,none⟩),ee ?_,.ptr b (off+i*es) c (f i) hX hb (fun j y hy=>hcell i c j y hc hy) (fun j y hy=>hrep i c j y hc hy)⟩;unfold Instr.indexAt;rw[hn,hvx,Sem.run_bind];show Result.andThen (.ok (k,n) w) _=_;rw[aj];simp only[Sem.run_bind,run_underlying (dQ hs),aj,Sem.run_pure];rw[if_pos ⟨h0,by omega⟩,Sem.run_bind,ew hsz,aj];rw[hi,Addr.add_lit,hes'];rfl
    cases h
   cases h
  ·rename_i el a r off len hs hx;obtain⟨o',h1,h2,h3⟩:=hev x _ hx;split at h
   ·rename_i o'' ho';rw[h1]at ho';injection ho' with ho'
    subst ho';split at h
    ·rename_i hcond;injection h with h
     subst h;rcases h3 with⟨_,_,hlen,_⟩|⟨b,c,cap,hρ,hv,_⟩
     ·omega
     refine⟨.pointer (some ⟨b,(off+i)*o'.es+0,none⟩),ee ?_,o',b,c,h1,hρ,by omega,rfl⟩;unfold Instr.indexAt;rw[hn,hv,Sem.run_bind];show Result.andThen (.ok (k,n) w) _=_;rw[aj];simp only[Sem.run_bind,run_underlying (dQ hs),aj,Sem.run_pure];rw[if_pos ⟨h0,by omega⟩,Sem.run_bind,ew hcond.1,aj];rw[hi,Addr.add_lit,Nat.add_zero,Nat.add_mul];rfl
    cases h
   cases h
  ·rename_i cs hs hx;split at h
   ·rename_i m el ha;split at h
    ·rename_i sz hsz;split at h
     ·rename_i him;injection h with h
      subst h;obtain⟨b,off,hv,hX,hc⟩:=iZ (ρ:=ρ) (H:=H) (hev x _ hx);have hr:=hev x _ hx;rw[hv]at hr;refine⟨.pointer (some ⟨b,off+i*sz,none⟩),ee ?_,rj hr⟩;unfold Instr.indexAt;rw[hn,hv,Sem.run_bind];show Result.andThen (.ok (k,n) w) _=_;rw[aj];simp only[Sem.run_bind,run_underlying (ja ha),aj,Sem.run_pure,Instr.sureAddr];rw[if_pos ⟨h0,by omega⟩,Sem.run_bind,ew hsz,aj,hi,Addr.add_lit];rfl
     cases h
    cases h
   cases h
  ·rename_i a r kk j hs hx;split at h
   ·rename_i m el ha;split at h
    ·rename_i sz hsz;split at h
     ·rename_i him;injection h with h
      subst h;obtain⟨o',b,c,g1,g2,g3,hv⟩:=hev x _ hx;refine⟨.pointer (some ⟨b,kk*o'.es+(j+i*sz),none⟩),ee ?_,o',b,c,g1,g2,g3,rfl⟩;unfold Instr.indexAt;rw[hn,hv,Sem.run_bind];show Result.andThen (.ok (k,n) w) _=_;rw[aj];simp only[Sem.run_bind,run_underlying (ja ha),aj,Sem.run_pure,Instr.sureAddr];rw[if_pos ⟨h0,by omega⟩,Sem.run_bind,ew hsz,aj,hi,Addr.add_lit,Nat.add_assoc];rfl
     cases h
    cases h
   cases h
  ·rename_i b off hs hx;split at h
   ·rename_i m el ha;split at h
    ·rename_i sz hsz;split at h
     ·rename_i him;injection h with h
      subst h;have hv:=(bO (hev x _ hx)).1;refine⟨.pointer (some ⟨b,off+i*sz,none⟩),ee ?_,dC rfl⟩;unfold Instr.indexAt;rw[hn,hv,Sem.run_bind];show Result.andThen (.ok (k,n) w) _=_;rw[aj];simp only[Sem.run_bind,run_underlying (ja ha),aj,Sem.run_pure,Instr.sureAddr];rw[if_pos ⟨h0,by omega⟩,Sem.run_bind,ew hsz,aj,hi,Addr.add_lit];rfl
     cases h
    cases h
   cases h
  cases h
 cases h
theorem vu {ev:Operand->Option TV} {e:Operand->Value} (hev:iK ρ H X w ev e)
  {o:Oper} {t:TypeId} {x:Operand} {f:Nat} {T:TV} (ho:o.op= .fieldAddr t x f) (h:cj P ev H o.op=some T): ∃v,(execOp e o).run P w= .ok (.value v) w/\T.rel ρ H X w v:=by
 unfold execOp;rw[ho]at h⊢;simp only[cj]at h;split at h
 ·rename_i off ft cs hf hx;obtain⟨b,o0,hv,hX,hc⟩:=iZ (ρ:=ρ) (H:=H) (hev x _ hx);have hx:=hev x _ hx;split at h
  ·rename_i n hsz;injection h with h
   subst h;obtain⟨fs,d,h1,h2,h3,h4⟩:=nA hf;rw[hv]at hx;refine⟨_,ee ?_,rj hx⟩;unfold Instr.fieldAt;rw[Sem.run_bind,run_underlying h1,aj];simp only[h2,hv,Instr.sureAddr,Sem.run_bind,Sem.run_pure,aj,fieldPlace,h4,ew hsz];rw[if_neg (by simp)];simp only[Sem.run_pure,aj,h3,Addr.add_lit]
  cases h
 ·rename_i off ft a r i j hf hx;obtain⟨o',b,c,g1,g2,g3,hv⟩:=hev x _ hx;split at h
  ·rename_i n hsz;injection h with h
   subst h;obtain⟨fs,d,h1,h2,h3,h4⟩:=nA hf;refine⟨_,ee ?_,o',b,c,g1,g2,g3,rfl⟩;unfold Instr.fieldAt;rw[Sem.run_bind,run_underlying h1,aj];simp only[h2,hv,Instr.sureAddr,Sem.run_bind,Sem.run_pure,aj,fieldPlace,h4,ew hsz];rw[if_neg (by simp)];simp only[Sem.run_pure,aj,h3,Addr.add_lit,Nat.add_assoc]
  cases h
 cases h
end
end
section
section
variable {P:Program} {ρ:Rho} {H:OH} {X:Nat->Prop} {w:World}
theorem wl {t:TypeId} {cs:List AV} {T:TV} {vs:Array Value} {off:Nat} (h:packT P t (cs.drop off)=some T) (hs:vs.size=cs.length)
  (hc: ∀(j:Nat) x,cs[j]?=some x-> ∃u:Value,vs[j]?=some u/\u.oneCell'=true/\x.rel ρ H X w u):
  ∃v,(part t vs off).run P w= .ok v w/\T.rel ρ H X w v:=by
 unfold packT at h;split at h
 ·rename_i n hn ha;split at h
  ·rename_i hl;injection h with h
   subst h;refine⟨.agg (vs.extract off (off+n)),?_,_,rfl,?_,fun j x hx=>?_⟩
   ·unfold part;rw[Sem.run_bind,rq ha,aj,if_pos rfl,Sem.run_bind,ew hn,aj];rfl
   ·simp at hl⊢;omega
   rw[List.getElem?_take]at hx;split at hx
   ·rename_i hj;rw[List.getElem?_drop]at hx;obtain⟨u,h1,h2⟩:=hc _ x hx;refine⟨u,?_,h2⟩;rw[Array.getElem?_extract,if_pos (by have:=(Array.getElem?_eq_some_iff.1 h1).1;omega)];exact h1
   cases hx
  cases h
 ·rename_i hn ha;split at h
  ·rename_i x l hl;injection h with h
   subst h;have hx:cs[off]?=some x:=by
    have:(cs.drop off)[0]?=some x:=by rw[hl];rfl
    rw[List.getElem?_drop]at this;simpa using this
   obtain⟨u,h1,h2,h3⟩:=hc _ x hx;refine⟨u,?_,h3⟩;unfold part;rw[Sem.run_bind,rq ha,aj,if_neg (by simp),h1];rfl
  cases h
 cases h
theorem Eh {ev:Operand->Option TV} {e:Operand->Value} (hev:iK ρ H X w ev e)
  {o:Oper} {t:TypeId} {x:Operand} {f:Nat} {T:TV} (ho:o.op= .field t x f) (h:cj P ev H o.op=some T): ∃v,(execOp e o).run P w= .ok (.value v) w/\T.rel ρ H X w v:=by
 unfold execOp;rw[ho]at h⊢;simp only[cj]at h;split at h
 ·rename_i off ft cs hf hx;obtain⟨vs,hv,hs,hc⟩:=hev x _ hx;obtain⟨fs,d,h1,h2,h3,h4⟩:=nA hf;obtain⟨v,g1,g2⟩:=wl h hs hc;refine⟨v,ee ?_,g2⟩;unfold Instr.field;rw[Sem.run_bind,run_underlying h1,aj];simp only[h2,hv,asAgg,Sem.run_bind,Sem.run_pure,aj,h3,h4,g1]
 cases h
theorem Ei {ev:Operand->Option TV} {e:Operand->Value} (hev:iK ρ H X w ev e)
  {o:Oper} {t:TypeId} {x ix:Operand} {T:TV} (ho:o.op= .index t x ix) (h:cj P ev H o.op=some T): ∃v,(execOp e o).run P w= .ok (.value v) w/\T.rel ρ H X w v:=by
 unfold execOp;rw[ho]at h⊢;simp only[cj]at h;split at h
 ·rename_i k n hix;have hn:=(bO (hev ix _ hix)).1;split at h
  ·cases h
  rename_i i hi;obtain⟨h0,hi⟩:=pV hi;split at h
  ·rename_i m el cs ha hx;split at h
   ·rename_i sz hsz;split at h
    ·rename_i him;obtain⟨vs,hv,hs,hc⟩:=hev x _ hx;obtain⟨v,g1,g2⟩:=wl h hs hc;refine⟨v,ee ?_,g2⟩;unfold Instr.index;rw[hn,hv,Sem.run_bind];show Result.andThen (.ok (k,n) w) _=_;rw[aj];simp only[Sem.run_bind,run_underlying (ja ha),aj,Sem.run_pure];rw[if_pos ⟨h0,by omega⟩,Sem.run_bind,ew hsz,aj,hi,g1]
    cases h
   cases h
  cases h
 cases h
theorem iO {ev:Operand->Option TV} {e:Operand->Value} (hev:iK ρ H X w ev e) {x:Option Operand} {d n:Nat} (h:eJ ev x d=some n):
  (x=none/\n=d)\/ ∃y k z,x=some y/\e y= .int k z/\0<=z/\z.toNat=n:=by
 unfold eJ at h;split at h
 ·injection h with h;exact .inl ⟨rfl,h.symm⟩
 rename_i dd y;split at h
 ·rename_i k z hy;obtain⟨h1,h2⟩:=pV h;exact .inr ⟨y,k,z,rfl,(bO (hev y _ hy)).1,h1,h2⟩
 cases h
theorem eh {k:IntKind} {z:Int} {y n:Nat} {c:BoundsCode} (h0:0<=z) (hn:z.toNat=n) (hy:n<=y):(Instr.sliceBound (.int k z) y c).run P w= .ok n w:=by
 unfold Instr.sliceBound;show(if 0<=z/\z<=y then(pure z.toNat:Sem Nat)else boundsPanic k z y c).run P w=_;rw[if_pos ⟨h0,by omega⟩,hn];rfl
theorem fQ {ev:Operand->Option TV} {e:Operand->Value} (hev:iK ρ H X w ev e) {lo hi:Option Operand} {len cap l h:Nat} (hl:eJ ev lo 0=some l) (hh:eJ ev hi len=some h) (h1:l<=h) (h2:h<=cap):
  (Instr.sliceBounds true len cap (lo.map e) (hi.map e) none).run P w= .ok (l,h,cap) w:=by
 unfold Instr.sliceBounds;rcases iO hev hl with⟨rfl,rfl⟩|⟨y,k,z,rfl,a1,a2,a3⟩
 ·rcases iO hev hh with⟨rfl,rfl⟩|⟨y',k',z',rfl,b1,b2,b3⟩
  ·rfl
  simp only[ag,Option.map_none,Sem.run_bind,Sem.run_pure,aj,b1];rw[eh b2 b3 h2];rfl
 rcases iO hev hh with⟨rfl,rfl⟩|⟨y',k',z',rfl,b1,b2,b3⟩
 ·simp only[ag,Option.map_none,Sem.run_bind,Sem.run_pure,aj,a1];rw[eh a2 a3 h1];rfl
 simp only[ag,Option.map_none,Sem.run_bind,Sem.run_pure,aj,a1,b1];rw[eh b2 b3 h2,aj,eh a2 a3 h1];rfl
theorem sT {ev:Operand->Option TV} {e:Operand->Value} (hev:iK ρ H X w ev e) {lo hi mx:Operand} {len cap l h m:Nat} (hl:eJ ev (some lo) 0=some l) (hh:eJ ev (some hi) 0=some h) (hm:eJ ev (some mx) 0=some m) (h1:l<=h) (h2:h<=m) (h3:m<=cap):
  (Instr.sliceBounds true len cap (some (e lo)) (some (e hi)) (some (e mx))).run P w= .ok (l,h,m) w:=by
 unfold Instr.sliceBounds;rcases iO hev hl with⟨h,_⟩|⟨y,k,z,hy,a1,a2,a3⟩
 ·cases h
 rcases iO hev hh with⟨h,_⟩|⟨y',k',z',hy',b1,b2,b3⟩
 ·cases h
 rcases iO hev hm with⟨h,_⟩|⟨y2,k2,z2,hy2,c1,c2,c3⟩
 ·cases h
 injection hy with hy
 injection hy' with hy'
 injection hy2 with hy2
 subst hy hy' hy2;simp only[Sem.run_bind,Sem.run_pure,aj,a1,b1,c1,Option.isSome_some,if_true];rw[eh c2 c3 h3,aj,eh b2 b3 h2,aj,eh a2 a3 h1];rfl
theorem Ej {ev:Operand->Option TV} {e:Operand->Value} (hev:iK ρ H X w ev e) (hob: ∀(a r:Nat) (o:OObj),(H a)[r]?=some o->objRel ρ H X w a r o)
  {o:Oper} {t:TypeId} {x:Operand} {lo hi mx:Option Operand} {T:TV} (ho:o.op= .slice t x lo hi mx) (h:cj P ev H o.op=some T): ∃v,(execOp e o).run P w= .ok (.value v) w/\T.rel ρ H X w v:=by
 unfold execOp;rw[ho]at h⊢;cases mx with
 |some mx=>
  cases lo with
  |none=>simp only[cj]at h;cases h
  |some lo=>
  cases hi with
  |none=>simp only[cj]at h;cases h
  |some hi=>
  simp only[cj]at h;split at h
  ·rename_i el a r off len hs hx;obtain⟨o',g1,g2,g3⟩:=hev x _ hx;have hu:=dQ hs;split at h
   ·rename_i l hh m o'' hl hhi hmx ho'';rw[g1]at ho'';injection ho'' with ho''
    subst ho'';split at h
    ·rename_i hcond;obtain⟨c1,c2,c3,c4,c5⟩:=hcond;injection h with h
     subst h;rcases g3 with⟨_,_,h0,_⟩|⟨b,c,cap,hρ,hv,hcap,hst⟩
     ·omega
     refine⟨_,ee ?_,o',g1,by omega,.inr ⟨b,c,m-l,hρ,rfl,by omega,fun h=>by omega⟩⟩;unfold Instr.sliceAt;simp only[Sem.run_bind,run_underlying hu,aj];unfold Instr.slice;simp only[Sem.run_bind,run_underlying hu,aj,hv,ag];rw[sT hev hl hhi hmx (by omega) c3 (by omega),aj];simp only[Sem.run_bind,ew c1,aj,Sem.run_pure];rw[if_neg (by omega)];simp only[ag,Addr.add_lit];rw[Nat.add_mul]
    cases h
   cases h
  cases h
 |none=>
 simp only[cj]at h;split at h
 ·rename_i el xs hs hx;have hx:=hev x _ hx;generalize hvx:e x=vx at*
  split at h
  ·rename_i l hh n hl hhi hsz;split at h
   ·rename_i hcond;injection h with h
    subst h;obtain⟨c1,c2,c3⟩:=hcond;have hu:=dQ hs;cases hx with
    |nil a c=>
     have hh0:hh=0:=by simpa using c2
     subst hh0;have hl0:l=0:=by omega
     subst hl0;refine⟨.slice (if c=0 then a else a.map (·.add (0*n))) (0-0) (c-0),ee ?_,?_⟩
     ·unfold Instr.sliceAt;simp only[Sem.run_bind,run_underlying hu,aj];unfold Instr.slice;simp only[Sem.run_bind,run_underlying hu,aj,hvx,Option.map_none];rw[fQ hev hl (show eJ ev hi 0=some 0 from hhi) (Nat.le_refl _) (Nat.zero_le _),aj];simp only[Sem.run_bind,ew hsz,aj,Sem.run_pure]
     simp only[List.take_nil,List.drop_nil];exact cu.nil _ _
    |sl b off es cap xs f hX hb hes hcap hm hcell hrep=>
     refine⟨.slice (if cap=l then some ⟨b,off,none⟩else(some (⟨b,off,none⟩:Addr)).map (·.add (l*n))) (hh-l) (cap-l),ee ?_,?_⟩
     ·unfold Instr.sliceAt;simp only[Sem.run_bind,run_underlying hu,aj];unfold Instr.slice;simp only[Sem.run_bind,run_underlying hu,aj,hvx,Option.map_none];rw[fQ hev hl hhi c1 (by omega),aj];simp only[Sem.run_bind,ew hsz,aj,Sem.run_pure]
     show cu _ _ _ _;have hlen:((xs.take hh).drop l).length=hh-l:=by simp;omega
     by_cases hlh:l=hh
     ·subst hlh;rw[show(xs.take l).drop l=[] by rw[List.drop_eq_nil_iff];simp;omega];rw[Nat.sub_self];exact cu.nil _ _
     rw[if_neg (by omega)];simp only[ag,Addr.add_lit];rw[<- hlen];have hes':es=n:=by
      cases hx0:xs with
      |nil=>rw[hx0]at c2;simp at c2;omega
      |cons y ys=>have h1:=hes y (by rw[hx0];simp);have h2:=c3 y (by rw[hx0];simp);omega
     subst hes';have hsub: ∀(i:Nat) y,((xs.take hh).drop l)[i]?=some y->xs[l+i]?=some y:=fun i y hy=>by
      rw[List.getElem?_drop,List.getElem?_take]at hy;split at hy
      ·exact hy
      cases hy
     refine .sl b (off+l*es) es (cap-l) _ (fun i j=>f (l+i) j) hX hb (fun y hy=>hes y (List.mem_of_mem_take (List.mem_of_mem_drop hy))) (by rw[hlen];omega) (by rw[hlen];omega) (fun i y j z h1 h2=>?_) (fun i y j z h1 h2=>hrep _ y j z (hsub i y h1) h2);have:=hcell _ y j z (hsub i y h1) h2;rw[<- this]
     congr 2
     rw[Nat.add_mul];omega
   cases h
  cases h
 ·rename_i el a r off len hs hx;obtain⟨o',g1,g2,g3⟩:=hev x _ hx;have hu:=dQ hs;split at h
  ·rename_i l hh o'' hl hhi ho'';rw[g1]at ho'';injection ho'' with ho''
   subst ho'';have hcle: ∀b c,ρ a r=some (b,c)->o'.elems.length<=c:=fun b c hρ=>by
    obtain⟨_,_,h3⟩:=hob a r o' g1;rw[hρ]at h3;obtain⟨_,_,_,h,_⟩:=h3;exact h
   split at h
   ·rename_i hcond;obtain⟨c1,c2,c3⟩:=hcond;injection h with h
    subst h;rcases g3 with⟨_,_,h0,_⟩|⟨b,c,cap,hρ,hv,hcap,hst⟩
    ·omega
    have:=hcle b c hρ;refine⟨_,ee ?_,o',g1,by omega,.inr ⟨b,c,cap-l,hρ,rfl,by omega,fun h=>by have:=hst h;omega⟩⟩;unfold Instr.sliceAt;simp only[Sem.run_bind,run_underlying hu,aj];unfold Instr.slice;simp only[Sem.run_bind,run_underlying hu,aj,hv,Option.map_none];rw[fQ hev hl hhi (by omega) (by omega),aj];simp only[Sem.run_bind,ew c1,aj,Sem.run_pure];rw[if_neg (by omega)];simp only[ag,Addr.add_lit];rw[Nat.add_mul]
   split at h
   ·rename_i hcond;obtain⟨c1,c2,c3⟩:=hcond;injection h with h
    subst h;subst c2;rcases g3 with⟨_,hv,h0,_⟩|⟨b,c,cap,hρ,hv,hcap,hst⟩
    ·refine⟨.slice (if 0=l then none else(none:Option Addr).map (·.add (l*o'.es))) 0 (0-l),ee ?_,cu.nil _ _⟩;unfold Instr.sliceAt;simp only[Sem.run_bind,run_underlying hu,aj];unfold Instr.slice;simp only[Sem.run_bind,run_underlying hu,aj,hv,Option.map_none];subst h0;rw[fQ hev hl hhi (by omega) (by omega),aj];simp only[Sem.run_bind,ew c1,aj,Sem.run_pure,Nat.sub_self]
    have:=hcle b c hρ;refine⟨.slice (if cap=l then some ⟨b,off*o'.es,none⟩else(some (⟨b,off*o'.es,none⟩:Addr)).map (·.add (l*o'.es))) 0 (cap-l),ee ?_,cu.nil _ _⟩;unfold Instr.sliceAt;simp only[Sem.run_bind,run_underlying hu,aj];unfold Instr.slice;simp only[Sem.run_bind,run_underlying hu,aj,hv,Option.map_none];rw[fQ hev hl hhi (by omega) (by omega),aj];simp only[Sem.run_bind,ew c1,aj,Sem.run_pure,Nat.sub_self]
   cases h
  cases h
 cases h
theorem xf {ev:Operand->Option TV} {e:Operand->Value} (hev:iK ρ H X w ev e)
  {o:Oper} {x:Operand} {T:TV} (ho:o.op= .nilCheck x) (h:cj P ev H o.op=some T): ∃v,(execOp e o).run P w= .ok (.value v) w/\T.rel ρ H X w v:=by
 unfold execOp;rw[ho]at h⊢;simp only[cj]at h;split at h
 ·rename_i cs hx;obtain⟨b,off,hv,hX,hc⟩:=iZ (ρ:=ρ) (H:=H) (hev x _ hx);injection h with h
  subst h;refine⟨e x,?_,hev x _ hx⟩;simp only[hv];rfl
 ·rename_i a r i j hx;have hr:=hev x _ hx;obtain⟨o',b,c,h1,h2,h3,hv⟩:=hr;injection h with h
  subst h;refine⟨e x,?_,hev x _ hx⟩;simp only[hv];rfl
 cases h
theorem Qp {t e ty:TypeId} {a:Option Addr} {n c:Nat} (ht:P.underlying t=some (.slice e)):(Builtin.len_ #[t] ty #[.slice a n c]).run P w= .ok (goInt n) w:=by
 simp[Builtin.len_,run_underlying ht]
theorem Lp {ev:Operand->Option TV} {e:Operand->Value} (hev:iK ρ H X w ev e)
  {o:Oper} {args:Array Operand} {argTypes:Array TypeId} {T:TV} (ho:o.op= .call {callee:= .builtin .len,args,argTypes}) (h:cj P ev H o.op=some T): ∃v,(execOp e o).run P w= .ok (.value v) w/\T.rel ρ H X w v:=by
 unfold execOp;rw[ho]at h⊢;simp only[cj]at h;obtain⟨args⟩:=args;obtain⟨argTypes⟩:=argTypes;split at h
 ·rename_i x t hx ht;simp only at hx ht;subst hx ht;have key: ∀a n c el,sliceO P t=some el->e x= .slice a n c->T= .raw (.int .i64 n)-> ∃v,(do let d<- resolve e {callee:= .builtin .len,args:=⟨[x]⟩,argTypes:=⟨[t]⟩} o.type;invoke d.target d.args:Sem Next).run P w= .ok (.value v) w/\T.rel ρ H X w v:=by
   intro a n c el hs hv hT;subst hT;refine⟨.int .i64 n,?_,dC rfl⟩;simp only[resolve,invoke,builtin,Sem.run_bind,Sem.run_pure,aj,List.map_toArray,List.map_cons,List.map_nil,hv,Qp (dQ hs)];rfl
  split at h
  ·rename_i el xs hs hx;injection h with h
   have hx:=hev x _ hx;generalize hvx:e x=vx at hx;cases hx with
   |nil a c=>exact key _ _ _ _ hs hvx h.symm
   |sl b off es cap xs f=>exact key _ _ _ _ hs hvx h.symm
  ·rename_i el a r off len hs hx;injection h with h
   obtain⟨o',g1,g2,g3⟩:=hev x _ hx;rcases g3 with⟨_,hv,h0,_⟩|⟨b,c,cap,hρ,hv,_⟩
   ·subst h0;exact key _ _ _ _ hs hv h.symm
   exact key _ _ _ _ hs hv h.symm
  ·rename_i el a n c hs hx;injection h with h
   exact key _ _ _ _ hs (bO (hev x _ hx)).1 h.symm
  cases h
 cases h
end
end
end Go.Proofs.YtiollbhgpiiodaaGreatDoor
