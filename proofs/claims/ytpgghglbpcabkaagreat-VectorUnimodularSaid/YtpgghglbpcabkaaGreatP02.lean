/-
  Part 3 of a proof (walks and plain facts).
-/
import Derived.Test.YtpgghglbpcabkaaGreatP01
set_option linter.all false
set_option maxRecDepth 100000
set_option maxHeartbeats 64000000
namespace Go.Proofs.YtpgghglbpcabkaaGreat
open Go.RowKit
def iT (P:Program) (t:TypeId):Option Nat:=(P.info? t).map (·.size)
def BJ (P:Program) (t:TypeId):Option Nat:=(P.info? t).map (·.bytes)
def gV (P:Program) (t:TypeId):Option (List Value):=((P.info? t).bind (·.zero)).map (·.cells.toList)
def kE (P:Program) (t:TypeId):Option Bool:=(P.underlying t).map fun| .struct _=>true| .array _ _=>true|_=>false
def dW (P:Program) (t:TypeId):Option TypeId:=(P.underlying t).bind fun| .slice e=>some e|_=>none
def td (P:Program) (t:TypeId):Option IntKind:=(P.underlying t).bind fun| .int k=>some k|_=>none
def ox (P:Program) (t:TypeId):Bool:=match P.underlying t with|some .bool=>true|_=>false
def gI (P:Program) (t:TypeId) (f:Nat):Option (Nat×TypeId):=(P.underlying t).bind fun| .struct fs=>(fs[f]?).map fun d=>(d.offset,d.type)|_=>none
abbrev AV.raw (v:Value):AV:= .p (.raw v)
abbrev TV.raw (v:Value):TV:= .one (.p (.raw v))
abbrev TV.undef:TV:= .tup []
def ac:Value->TV
 | .agg cs=>if cs.toList.all (·.oneCell')then .agg (cs.toList.map AV.raw)else .one .junk
 |v=>if v.oneCell' then .raw v else .one .junk
def AS.ev (s:AS):Operand->Option TV
 | .tmp t=>s.tmps[t]?
 | .const v=>some (ac v)
 | .global g=>some (.raw (.pointer (some ⟨g,0,none⟩)))
 | .func f=>some (.raw (.func (.func f) #[] #[]))
def AS.put (s:AS) (d:Option Tmp) (t:TV):AS:=
 match d with
 |some d=>{s with tmps:=s.tmps.set d t}
 |none=>s
def ax (P:Program) (t:TypeId) (cs:List AV):Option TV:=
 match iT P t,kE P t with
 |some n,some true=>if n<=cs.length then some (.agg (cs.take n))else none
 |some _,some false=>match cs with
  |x::_=>some (.one x)
  |[]=>none
 |_,_=>none
def ai (bt:Bool):BinOp->Value->Value->Option Value
 | .add,.int k a,.int k' b=>if k=k' then some (.int k (k.wrap (a+b)))else none
 | .sub,.int k a,.int k' b=>if k=k' then some (.int k (k.wrap (a-b)))else none
 | .mul,.int k a,.int k' b=>if k=k' then some (.int k (k.wrap (a*b)))else none
 | .quo,.int k a,.int k' b=>if k=k'/\b≠0 then some (.int k (k.wrap (a.tdiv b)))else none
 | .rem,.int k a,.int k' b=>if k=k'/\b≠0 then some (.int k (a.tmod b))else none
 | .shl,.int k a,.int _ b=>if 0<=b then some (.int k (k.wrap (a*2^(min b.toNat k.bits))))else none
 | .shr,.int k a,.int _ b=>if 0<=b then some (.int k (a.fdiv (2^(min b.toNat k.bits))))else none
 | .and,.int k a,.int k' b=>if k=k' then some (.int k (k.wrap ((BitVec.ofInt k.bits a&&&BitVec.ofInt k.bits b).toNat:Int)))else none
 | .or,.int k a,.int k' b=>if k=k' then some (.int k (k.wrap ((BitVec.ofInt k.bits a|||BitVec.ofInt k.bits b).toNat:Int)))else none
 | .xor,.int k a,.int k' b=>if k=k' then some (.int k (k.wrap ((BitVec.ofInt k.bits a^^^BitVec.ofInt k.bits b).toNat:Int)))else none
 | .eql,.int k a,.int k' b=>if k=k' then some (.bool (decide (a=b)))else none
 | .neq,.int k a,.int k' b=>if k=k' then some (.bool (!decide (a=b)))else none
 | .lss,.int k a,.int k' b=>if k=k' then some (.bool (decide (a<b)))else none
 | .leq,.int k a,.int k' b=>if k=k' then some (.bool (decide (a<=b)))else none
 | .gtr,.int k a,.int k' b=>if k=k' then some (.bool (decide (b<a)))else none
 | .geq,.int k a,.int k' b=>if k=k' then some (.bool (decide (b<=a)))else none
 | .eql,.bool a,.bool b=>if bt=true then some (.bool (a==b))else none
 | .neq,.bool a,.bool b=>if bt=true then some (.bool (!(a==b)))else none
 |_,_,_=>none
def eA:UnOp->Value->Option Value
 | .neg,.int k n=>some (.int k (k.wrap (0-n)))
 | .not,.bool b=>some (.bool !b)
 |_,_=>none
def aj (P:Program) (ev:Operand->Option TV):Op->Option TV
 | .move x=>ev x
 | .assign x=>ev x
 | .pick c a b=>match ev c with
  |some (.one (.p (.raw (.bool true))))=>ev a
  |some (.one (.p (.raw (.bool false))))=>ev b
  |_=>none
 | .binOp op t x y _=>match ev x,ev y with
  |some (.one (.p (.raw a))),some (.one (.p (.raw b)))=>(ai (ox P t) op a b).map TV.raw
  |_,_=>none
 | .unOp op _ x=>match ev x with
  |some (.one (.p (.raw a)))=>(eA op a).map TV.raw
  |_=>none
 | .convert src dst x=>match ev x,P.underlying src,td P dst with
  |some (.one (.p (.raw (.int _ n)))),some _,some k=>some (.raw (.int k (k.wrap n)))
  |_,_,_=>none
 | .extract t i=>match ev t with
  |some (.tup ts)=>match ts[i]? with
   |some (true,cs)=>some (.agg cs)
   |some (false,[x])=>some (.one x)
   |_=>none
  |_=>none
 |_=>none
def rm:Op->Bool
 | .move _| .assign _| .pick ..| .binOp ..| .unOp ..| .convert ..| .extract ..=>true
 |_=>false
def sH (z:Int):Option Nat:=if 0<=z then some z.toNat else none
def eS (ev:Operand->Option TV):Option Operand->Nat->Option Nat
 |none,d=>some d
 |some x,_=>match ev x with
  |some (.one (.p (.raw (.int _ n))))=>sH n
  |_=>none
def cellsOf:TV->Option (List AV)
 | .one (.p x)=>some [.p x]
 | .agg cs=>some cs
 |_=>none
def nC (P:Program) (t:TypeId):Option (List (Nat×Nat)):=(P.underlying t).bind fun| .struct fs=>fs.toList.mapM (fun f=>(P.info? f.type).map fun i=>(f.offset,i.size))|_=>none
def ex (pl:List (Nat×Nat)) (ev:Operand->Option TV):List AV->List (Nat×Operand)->Option (List AV)
 |cs,[]=>some cs
 |cs,(f,x)::rest=>match pl[f]?,(ev x).bind cellsOf with
  |some (off,n),some ys=>if ys.length=n/\off+n<=cs.length then ex pl ev (cs.take off++ys++cs.drop (off+n)) rest else none
  |_,_=>none
def aQ (ev:Operand->Option TV):List Operand->Option (List TV)
 |[]=>some []
 |x::l=>match ev x,aQ ev l with
  |some t,some ts=>some (t::ts)
  |_,_=>none
def jB:List TV->Option (List AV)
 |[]=>some []
 | .one .junk::_=>none
 | .one x::l=>match jB l with
  |some cs=>some (x::cs)
  |none=>none
 |_::_=>none
def yN:Option TV->Option (FuncId×List TV)
 |some (.fn f cs)=>some (f,cs.map TV.one)
 |some (.one (.p (.raw (.func (.func f) first caps))))=>if first.isEmpty&&caps.isEmpty then some (f,[])else none
 |_=>none
def ao (P:Program) (ev:Operand->Option TV) (H:OH):Op->Option TV
 | .load t a=>match ev a with
  |some (.one (.p (.ptr cs)))=>ax P t (cs.map AV.p)
  |some (.one (.ptr a r i j))=>match(H a)[r]? with
   |some o=>match o.elems[i]? with
    |some e=>ax P t (e.drop j)
    |none=>none
   |none=>none
  |_=>none
 | .indexAddr t x ix=>match ev ix with
  |some (.one (.p (.raw (.int _ n))))=>match sH n with
   |none=>none
   |some i=>match dW P t,ev x with
    |some e,some (.one (.p (.sl xs)))=>match xs[i]? with
     |some c=>if iT P e=some c.length then some (.one (.p (.ptr c)))else none
     |none=>none
    |some e,some (.one (.sl a r off len))=>match(H a)[r]? with
     |some o=>if iT P e=some o.es/\i<len then some (.one (.ptr a r (off+i) 0))else none
     |none=>none
    |_,_=>none
  |_=>none
 | .fieldAddr t x f=>match gI P t f,ev x with
  |some (off,ft),some (.one (.p (.ptr cs)))=>match iT P ft with
   |some (_+1)=>some (.one (.p (.ptr (cs.drop off))))
   |_=>none
  |some (off,ft),some (.one (.ptr a r i j))=>match iT P ft with
   |some (_+1)=>some (.one (.ptr a r i (j+off)))
   |_=>none
  |_,_=>none
 | .field t x f=>match gI P t f,ev x with
  |some (off,ft),some (.agg cs)=>ax P ft (cs.drop off)
  |_,_=>none
 | .slice t x lo hi none=>match dW P t,ev x with
  |some e,some (.one (.p (.sl xs)))=>match eS ev lo 0,eS ev hi xs.length,iT P e with
   |some l,some h,some n=>if l<=h/\h<=xs.length/\ ∀c∈xs,c.length=n then some (.one (.p (.sl ((xs.take h).drop l))))else none
   |_,_,_=>none
  |some e,some (.one (.sl a r off len))=>match eS ev lo 0,eS ev hi len,(H a)[r]? with
   |some l,some h,some o=>if iT P e=some o.es/\l<h/\h<=len then some (.one (.sl a r (off+l) (h-l)))else if iT P e=some o.es/\l=h/\h<=len then some (.one (.p (.sl [])))else none
   |_,_,_=>none
  |_,_=>none
 | .build t parts=>match gV P t,nC P t with
  |some z,some pl=>if z.all (·.oneCell')then(ex pl ev (z.map AV.raw) parts.toList).map TV.agg else none
  |_,_=>none
 | .nilCheck x=>match ev x with
  |some (.one (.p (.ptr cs)))=>some (.one (.p (.ptr cs)))
  |some (.one (.ptr a r i j))=>some (.one (.ptr a r i j))
  |_=>none
 | .makeFunc (.func f) first captured=>if first.isEmpty then((aQ ev captured.toList).bind jB).map (TV.fn f)else none
 | .call {callee:= .builtin .len,args,argTypes}=>match args.toList,argTypes.toList with
  |[x],[t]=>match dW P t,ev x with
   |some _,some (.one (.p (.sl xs)))=>some (.raw (.int .i64 xs.length))
   |some _,some (.one (.sl _ _ _ len))=>some (.raw (.int .i64 len))
   |some _,some (.one (.p (.raw (.slice _ n _))))=>some (.raw (.int .i64 n))
   |_,_=>none
  |_,_=>none
 |_=>none
def Ci:Op->Bool
 | .load ..| .indexAddr ..| .fieldAddr ..| .field ..| .slice ..| .build ..| .nilCheck ..| .makeFunc ..| .call {callee:= .builtin .len,..}=>true
 |_=>false
def isPure:AV->Bool
 | .p _=>true
 |_=>false
def kW:AV->PV
 | .p x=>x
 |_=> .raw undef
def aP (d:Nat):AV->AV
 | .sl _ r off len=> .sl d r off len
 | .ptr _ r i j=> .ptr d r i j
 |x=>x
def aS (d:Nat):TV->TV
 | .one x=> .one (aP d x)
 | .agg cs=> .agg (cs.map (aP d))
 | .tup ts=> .tup (ts.map fun t=>(t.1,t.2.map (aP d)))
 | .fn f cs=> .fn f (cs.map (aP d))
def db (d:Nat) (o:OObj):OObj:={o with elems:=o.elems.map (List.map (aP d))}
def famH (d:Nat) (F:List OObj):OH:=fun a=>if a=d then F else[]
def au (H:OH) (d:Nat) (F:List OObj):OH:=fun a=>if a=d then F else H a
def aL (k:Nat->Nat->Bool):AV->AV
 | .sl a r off len=>if k a r then .junk else .sl a r off len
 | .ptr a r i j=>if k a r then .junk else .ptr a r i j
 |x=>x
def aH (k:Nat->Nat->Bool):TV->TV
 | .one x=> .one (aL k x)
 | .agg cs=> .agg (cs.map (aL k))
 | .tup ts=> .tup (ts.map fun t=>(t.1,t.2.map (aL k)))
 | .fn f cs=> .fn f (cs.map (aL k))
def d7 (k:Nat->Nat->Bool) (o:OObj):OObj:={o with elems:=o.elems.map (List.map (aL k))}
structure CallRes where
 fam:List OObj
 r:TV
def callable (P:Program) (f:FuncId):Bool:=match P.funcs[f]? with
 | some fn => fn.body.isSome && !(fn.name == "runtime.NumGoroutine")
 |none=>false
def CallC (P:Program) (f:FuncId) (args:List TV) (res:CallRes):Prop:=
 callable P f=true/\ ∀(X:Nat->Prop) (w:World) (vs:Array Value),(∀b,X b->b<w.heap.size)->vs.size=args.length->
  (∀(j:Nat) t,args[j]?=some t-> ∃v:Value,vs[j]?=some v/\t.rel (fun _ _=>none) (fun _=>[]) X w v)->
  Calls P f vs w fun e w'=> ∃v,e= .returned v/\ ∃ρ:eZ,
   gU w (fun _=>False) X (famH 0 res.fam) ρ w'/\res.r.rel ρ (famH 0 res.fam) (Xo X ρ (famH 0 res.fam)) w' v
def aV:AV->Bool
 | .p (.raw _)=>true
 |_=>false
def aR:TV->Bool
 | .one x=>aV x
 | .agg cs=>cs.all aV
 | .tup ts=>ts.all fun t=>t.2.all aV
 | .fn _ cs=>cs.all aV
def CallRes.plain (res:CallRes):Bool:=res.fam.isEmpty&&aR res.r
def ap:AV->Bool
 | .sl ..=>false
 | .ptr ..=>false
 |_=>true
def noRefTV:TV->Bool
 | .one x=>ap x
 | .agg cs=>cs.all ap
 | .tup ts=>ts.all fun t=>t.2.all ap
 | .fn _ cs=>cs.all ap
structure dN (P:Program) where
 i:Nat
 f:FuncId
 args:List TV
 res:CallRes
structure ar (P:Program) where
 i:Nat
 f:FuncId
 args:List TV
 res:CallRes
 h:CallC P f args res
def ar.a {P:Program} (it:ar P):dN P:=⟨it.i,it.f,it.args,it.res⟩
def fc (P:Program) (items:List (dN P)):Prop:= ∀it∈items,CallC P it.f it.args it.res
theorem ar.ok {P:Program} (items:List (ar P)):fc P (items.map ar.a):=fun it hit=>by
 obtain⟨x,_,rfl⟩:=List.mem_map.1 hit
 exact x.h
def bo (H:OH):TV->TV
 | .one (.sl a r off len)=>match(H a)[r]? with
  |some o=> .one (.p (.sl ((((o.elems.take (off+len)).drop off)).map (List.map kW))))
  |none=> .one .junk
 | .one (.p (.raw (.slice none 0 0)))=> .one (.p (.sl []))
 |t=>t
def az (own:Bool) (H:OH):TV->Bool
 | .one (.sl a r _ _)=>own&&match(H a)[r]? with
  |some o=>o.elems.all fun e=>e.all isPure
  |none=>false
 | .one (.p _)=>true
 | .agg cs=>cs.all isPure
 | .fn _ cs=>cs.all isPure
 |_=>false
def newsOf (H:OH):TV->Option (List (List AV))
 | .one (.p (.sl xs))=>some (xs.map (List.map AV.p))
 | .one (.p (.raw (.slice none 0 0)))=>some []
 | .one (.sl a r off len)=>match(H a)[r]? with
  |some o=>if o.elems.all fun e=>e.all isPure then some ((o.elems.take (off+len)).drop off)else none
  |none=>none
 |_=>none
def fW (ev:Operand->Option TV) (n:Nat):Nat->List (Nat×Operand)->Option (List (List AV))
 |_,[]=>some []
 |i,(k,x)::rest=>match(ev x).bind cellsOf,fW ev n (i+1) rest with
  |some cs,some l=>if k=i/\cs.length=n/\cs.all isPure then some (cs::l)else none
  |_,_=>none
open Classical in
noncomputable def aI (P:Program) (items:List (dN P)) (ow:List Nat) (i d:Nat) (ev:Operand->Option TV) (H:OH):Op->Option (TV×List OObj)
 | .box e x=>match(ev x).bind cellsOf with
  |some cs=>if cs.all isPure/\0<cs.length then some (.one (.ptr d 0 0 0),[⟨e,cs.length,[cs]⟩])else none
  |none=>none
 | .alloc e=>match gV P e with
  |some z=>if z.all (·.oneCell')/\0<z.length then some (.one (.ptr d 0 0 0),[⟨e,z.length,[z.map AV.raw]⟩])else none
  |none=>none
 | .makeSlice t l c=>match ev l,ev c,dW P t with
  |some (.one (.p (.raw (.int _ n)))),some (.one (.p (.raw (.int _ m)))),some e=>match gV P e,iT P e,BJ P e with
   |some z,some sz,some by_=>if 0<=n/\n<=m/\m<=9223372036854775807/\(by_:Int)*m<=281474976710656/\z.length=sz/\0<sz/\z.all (·.oneCell')then
     some (.one (.sl d 0 0 n.toNat),[⟨e,sz,List.replicate n.toNat (z.map AV.raw)⟩])else none
   |_,_,_=>none
  |_,_,_=>none
 | .buildSlice t n parts=>match dW P t with
  |some e=>match gV P e,iT P e with
   |some z,some sz=>match fW ev sz 0 parts.toList with
    |some l=>if l.length=n/\n*sz<=16777216/\z.length=sz/\0<sz then
      if ow.contains d then some (.one (.sl d 0 0 n),[⟨e,sz,l⟩])else some (.one (.p (.sl (l.map (List.map kW)))),[])else none
    |none=>none
   |_,_=>none
  |none=>none
 | .call c=>match c.callee with
  | .value (.func f)=>match items.find? (·.i==i),aQ ev c.args.toList with
   |some it,some ts=>if it.f=f/\ts.map (bo H)=it.args/\ts.all (az it.res.plain H)/\(!it.res.fam.isEmpty||noRefTV it.res.r)then some (aS d it.res.r,it.res.fam.map (db d))else none
   |_,_=>none
  | .value (.tmp k)=>match yN (ev (.tmp k)),items.find? (·.i==i),aQ ev c.args.toList with
   |some (f,extra),some it,some ts=>if it.f=f/\(ts++extra).map (bo H)=it.args/\(ts++extra).all (az it.res.plain H)/\(!it.res.fam.isEmpty||noRefTV it.res.r)then some (aS d it.res.r,it.res.fam.map (db d))else none
   |_,_,_=>none
  | .builtin .append=>match c.args.toList,c.argTypes.toList with
   |[s,x],[t,t']=>match ev s,(ev x).bind (newsOf H),dW P t with
    |some (.one (.p (.raw (.slice none 0 0)))),some news,some e=>match gV P e,iT P e,BJ P e with
     |some z,some sz,some by_=>if t=t'/\news.length*by_<=140737488355328/\news.length<=9223372036854775807/\z.length=sz/\0<sz/\(∀e∈news,e.length=sz)then
       some (.one (.sl d 0 0 news.length),[⟨e,sz,news⟩])else none
     |_,_,_=>none
    |_,_,_=>none
   |_,_=>none
  |_=>none
 |_=>none
def putCells (e:List AV) (j:Nat) (cs:List AV):List AV:=e.take j++cs++e.drop (j+cs.length)
structure uX where
 t:TV
 H:OH
 k:Nat->Nat->Bool
def bN (P:Program) (ev:Operand->Option TV) (H:OH):Op->Option uX
 | .store t a x=>match ev a,iT P t with
  |some (.one (.ptr a r i j)),some n=>match(H a)[r]? with
   |some o=>match o.elems[i]? with
    |some e=>match ev x with
     |some (.one (.sl a' r' off len))=>
      if a'=a then
       if n=1/\j<e.length then some ⟨.undef,au H a ((H a).set r {o with elems:=o.elems.set i (putCells e j [.sl a' r' off len])}),fun _ _=>false⟩else none
      else match H a' with
       |[ob]=>if r'=0/\off=0/\len=ob.elems.length/\n=1/\j<e.length/\ob.elems.all (fun e=>e.all isPure)then
         some ⟨.undef,au (au H a ((H a).set r {o with elems:=o.elems.set i (putCells e j [.sl a (H a).length 0 len])}++[ob])) a' [],fun x _=>x==a'⟩else none
       |_=>none
     |some v=>match cellsOf v with
      |some cs=>if cs.length=n/\j+n<=e.length/\cs.all isPure then
        some ⟨.undef,au H a ((H a).set r {o with elems:=o.elems.set i (putCells e j cs)}),fun _ _=>false⟩else none
      |none=>none
     |none=>none
    |none=>none
   |none=>none
  |_,_=>none
 | .call c=>match c.callee,c.args.toList,c.argTypes.toList with
  | .builtin .append,[s,x],[t,t']=>match ev s,(ev x).bind (newsOf H),dW P t with
   |some (.one (.sl a r off len)),some news,some e=>match(H a)[r]?,gV P e,iT P e,BJ P e with
    |some o,some z,some sz,some by_=>if t=t'/\o.ty=e/\o.es=sz/\o.elems.all (fun e=>e.all isPure)/\off=0/\len=o.elems.length/\(len+news.length)*by_<=140737488355328/\len+news.length<=9223372036854775807/\z.length=sz/\(∀e∈news,e.length=sz)then
      some ⟨.one (.sl a r 0 (len+news.length)),au H a (((H a).map (d7 fun x y=>x==a&&y==r)).set r {o with elems:=o.elems++news}),fun x y=>x==a&&y==r⟩else none
    |_,_,_,_=>none
   |_,_,_=>none
  |_,_,_=>none
 |_=>none
noncomputable def dZ (P:Program) (items:List (dN P)) (ow:List Nat) (i:Nat) (o:Oper) (s:AS):Option AS:=
 if rm o.op then(aj P s.ev o.op).map (s.put o.dst)
 else if Ci o.op then(ao P s.ev s.H o.op).map (s.put o.dst)
 else match bN P s.ev s.H o.op with
  |some q=>some (AS.put ⟨s.tmps.map (aH q.k),q.H⟩ o.dst q.t)
  |none=>match o.dst with
   |none=>none
   |some d=>match aI P items ow i d s.ev s.H o.op with
    |some (t,[])=>some (s.put (some d) t)
    |some (t,F)=>match s.H d with
     |[]=>some (AS.put ⟨s.tmps,au s.H d F⟩ (some d) t)
     |_=>none
    |none=>none
noncomputable def cz (P:Program) (items:List (dN P)) (ow:List Nat) (ops:Array Oper) (i:Nat) (o:Oper) (s:AS):Option AS:=
 match o.guard with
 |none=>dZ P items ow i o s
 |some (g,want)=>match(ops[g]?).bind (·.dst)with
  |none=>none
  |some d=>match s.tmps[d]? with
   |some (.one (.p (.raw (.bool b))))=>if b=want then dZ P items ow i o s else some (s.put o.dst .undef)
   |some (.tup [])=>some (s.put o.dst .undef)
   |_=>none
noncomputable def iz (P:Program) (items:List (dN P)) (ow:List Nat) (ops:Array Oper):List (Oper×Nat)->AS->Option AS
 |[],s=>some s
 |(o,i)::rest,s=>match cz P items ow ops i o s with
  |some s'=>iz P items ow ops rest s'
  |none=>none
section
section
variable {P:Program} {ρ:eZ} {H:OH} {X:Nat->Prop} {w:World}
def gf (ρ:eZ) (H:OH) (X:Nat->Prop) (w:World) (ev:Operand->Option TV) (e:Operand->Value):Prop:= ∀x t,ev x=some t->TV.rel ρ H X w t (e x)
theorem cW {a v:Value} (h:TV.rel ρ H X w (.raw a) v):v=a/\a.oneCell'=true:=by
 cases h with
 |raw v h=>exact⟨rfl,h⟩
theorem eE {a:Value} (h:a.oneCell'=true):TV.rel ρ H X w (.raw a) a:=cO.raw a h
theorem t8 (v:Value):TV.rel ρ H X w (ac v) v:=by
 unfold ac
 split
 ·rename_i cs
  split
  ·rename_i h
   simp only[List.all_eq_true]at h
   refine⟨cs,rfl,by simp,fun j x hx=>?_⟩
   rw[List.getElem?_map]at hx
   cases hj:cs.toList[j]? with
   |none=>rw[hj]at hx;cases hx
   |some u=>
    rw[hj]at hx
    simp at hx
    subst hx
    have h1:u.oneCell'=true:=h u (List.mem_of_getElem? hj)
    exact⟨u,by simpa using hj,h1,cO.raw u h1⟩
  ·exact trivial
 ·split
  ·exact cO.raw _ (by assumption)
  ·exact trivial
theorem sp {op:BinOp} {a b v:Value} {t:TypeId} (h:ai (ox P t) op a b=some v) (x y:Operand):
  (do eqGuard op t x y a b;binOp op t a b:Sem Value).run P w= .ok v w/\v.oneCell'=true:=by
 unfold ai at h
 split at h
 case h_1|h_2|h_3|h_8|h_9|h_10|h_11|h_12|h_13|h_14|h_15|h_16=>
  split at h
  ·rename_i hk
   subst hk
   injection h with h
   subst h
   refine⟨?_,rfl⟩
   show(if _≠_ then _ else _:Sem Value).run P w=_
   rw[if_neg (fun h=>h rfl)]
   rfl
  ·cases h
 case h_4|h_5=>
  split at h
  ·rename_i hk
   obtain⟨hk,hb⟩:=hk
   subst hk
   injection h with h
   subst h
   refine⟨?_,rfl⟩
   show(if _≠_ then _ else(if _=_ then _ else _):Sem Value).run P w=_
   rw[if_neg (fun h=>h rfl),if_neg hb]
   rfl
  ·cases h
 case h_6|h_7=>
  split at h
  ·rename_i hb
   injection h with h
   subst h
   refine⟨?_,rfl⟩
   show(if _<_ then _ else _:Sem Value).run P w=_
   rw[if_neg (by omega)]
   rfl
  ·cases h
 case h_17|h_18=>
  split at h
  ·rename_i hb
   injection h with h
   subst h
   have ht:P.underlying t=some .bool:=by
    unfold ox at hb
    split at hb
    ·assumption
    ·cases hb
   refine⟨?_,rfl⟩
   first
    |exact run_eql_bool w t _ _ ht
    |exact run_neq_bool w t _ _ ht
  ·cases h
 case h_19=>cases h
theorem vt {op:UnOp} {a v:Value} (h:eA op a=some v):(Op.unary op a).run P w= .ok v w/\v.oneCell'=true:=by
 unfold eA at h
 split at h
 ·injection h with h;subst h;exact⟨rfl,rfl⟩
 ·injection h with h;subst h;exact⟨rfl,rfl⟩
 ·cases h
theorem eu {s:Sem Value} {v:Value} {w':World} (h:s.run P w= .ok v w'):(do pure (Next.value (<- s)):Sem Next).run P w= .ok (.value v) w':=by
 rw[Sem.run_bind,h];rfl
theorem EX {s:Sem Unit} {w':World} (h:s.run P w= .ok () w'):(do s;pure Next.skip:Sem Next).run P w= .ok .skip w':=by
 rw[Sem.run_bind,h];rfl
theorem vQ {ev:Operand->Option TV} {e:Operand->Value} (hev:gf ρ H X w ev e) {o:Oper} {t:TV} (h:aj P ev o.op=some t):
  ∃v,(execOp e o).run P w= .ok (.value v) w/\t.rel ρ H X w v:=by
 unfold execOp
 cases ho:o.op<;>rw[ho]at h<;>simp only[aj]at h<;>try cases h
 case move x=>exact⟨_,rfl,hev x t h⟩
 case assign x=>exact⟨_,rfl,hev x t h⟩
 case pick c a b=>
  split at h
  ·rename_i hc
   have:=(cW (hev c _ hc)).1
   refine⟨e a,?_,hev a t h⟩
   simp only[this];rfl
  ·rename_i hc
   have:=(cW (hev c _ hc)).1
   refine⟨e b,?_,hev b t h⟩
   simp only[this];rfl
  ·cases h
 case binOp op ty x y yt=>
  split at h
  ·rename_i a b ha hb
   have h1:=(cW (hev x _ ha)).1
   have h2:=(cW (hev y _ hb)).1
   cases hv:ai (ox P ty) op a b with
   |none=>rw[hv]at h;cases h
   |some v=>
    rw[hv]at h
    simp at h
    subst h
    obtain⟨h3,h4⟩:=sp (P:=P) (w:=w) hv x y
    refine⟨v,?_,eE h4⟩
    simp only[h1,h2]
    exact eu h3
  ·cases h
 case unOp op ty x=>
  split at h
  ·rename_i a ha
   have h1:=(cW (hev x _ ha)).1
   cases hv:eA op a with
   |none=>rw[hv]at h;cases h
   |some v=>
    rw[hv]at h
    simp at h
    subst h
    obtain⟨h3,h4⟩:=vt (P:=P) (w:=w) hv
    refine⟨v,?_,eE h4⟩
    simp only[h1]
    exact eu h3
  ·cases h
 case convert src dst x=>
  split at h
  ·rename_i k n ds k' ha hs hk
   have h1:=(cW (hev x _ ha)).1
   injection h with h
   subst h
   have hd:P.underlying dst=some (.int k'):=by
    unfold td at hk
    cases hu:P.underlying dst with
    |none=>rw[hu]at hk;cases hk
    |some d=>rw[hu]at hk;cases d<;>simp at hk;rw[hk]
   refine⟨_,?_,eE rfl⟩
   simp only[h1]
   refine eu ?_
   unfold convert
   rw[Sem.run_bind,run_underlying hs,Result.andThen_ok,Sem.run_bind,run_underlying hd,Result.andThen_ok]
   rfl
  ·cases h
 case extract x i=>
  split at h
  ·rename_i ts ha
   obtain⟨vs,hvs,hsz,hr⟩:=hev x _ ha
   split at h
   ·rename_i cs hi
    injection h with h
    subst h
    obtain⟨u,hu,hc⟩:=hr i _ _ hi
    rcases hc with⟨_,hc⟩|⟨hc,_⟩
    ·refine⟨u,?_,hc⟩
     refine eu ?_
     simp only[hvs,Instr.extract,hu];rfl
    ·cases hc
   ·rename_i y hi
    injection h with h
    subst h
    obtain⟨u,hu,hc⟩:=hr i _ _ hi
    rcases hc with⟨hc,_⟩|⟨_,z,hz,hc⟩
    ·cases hc
    ·injection hz with hz
     subst hz
     refine⟨u,?_,hc⟩
     refine eu ?_
     simp only[hvs,Instr.extract,hu];rfl
   ·cases h
  ·cases h
end
end
section
section
variable {P:Program} {ρ:eZ} {H:OH} {X:Nat->Prop} {w:World}
theorem jF {t:TypeId} {n:Nat} (h:iT P t=some n): ∃i,P.info? t=some i/\i.size=n:=by
 unfold iT at h
 cases hi:P.info? t with
 |none=>rw[hi]at h;cases h
 |some i=>rw[hi]at h;simp at h;exact⟨i,rfl,h⟩
theorem rR {t:TypeId} {i:TypeInfo} (h:P.info? t=some i):(typeInfo t).run P w= .ok i w:=by
 unfold typeInfo
 show (match P.info? t with | some i => pure i | none => stuck "no such type" : Sem TypeInfo).run P w = _
 rw[h];rfl
theorem eQ {t:TypeId} {n:Nat} (h:iT P t=some n):(sizeOf t).run P w= .ok n w:=by
 obtain⟨i,hi,hn⟩:=jF h
 unfold sizeOf
 rw[Sem.run_bind,rR hi,Result.andThen_ok,hn]
 rfl
theorem li {t:TypeId} {b:Bool} (h:kE P t=some b):(isAgg t).run P w= .ok b w:=by
 unfold kE at h
 cases hu:P.underlying t with
 |none=>rw[hu]at h;cases h
 |some d=>
  rw[hu]at h
  unfold isAgg
  rw[Sem.run_bind,run_underlying hu,Result.andThen_ok]
  cases d<;>simp at h<;>subst h<;>rfl
theorem dH {t e:TypeId} (h:dW P t=some e):P.underlying t=some (.slice e):=by
 unfold dW at h
 cases hu:P.underlying t with
 |none=>rw[hu]at h;cases h
 |some d=>rw[hu]at h;cases d<;>simp at h;rw[h]
theorem jy {t:TypeId} {f off:Nat} {ft:TypeId} (h:gI P t f=some (off,ft)): ∃fs d,P.underlying t=some (.struct fs)/\fs[f]?=some d/\d.offset=off/\d.type=ft:=by
 unfold gI at h
 cases hu:P.underlying t with
 |none=>rw[hu]at h;cases h
 |some d=>
  rw[hu]at h
  cases d<;>simp at h
  rename_i fs
  obtain⟨d,hd,h1,h2⟩:=h
  exact⟨fs,d,rfl,hd,h1,h2⟩
def kb (ρ:eZ) (H:OH) (X:Nat->Prop) (w:World) (b off:Nat) (cs:List AV):Prop:=
 ∀(j:Nat) x,cs[j]?=some x-> ∃v:Value,w.cell? ⟨b,off+j,none⟩=some v/\v.oneCell'=true/\x.rel ρ H X w v
theorem jh {b off:Nat} {cs:List AV} (h:kb ρ H X w b off cs) (k:Nat):kb ρ H X w b (off+k) (cs.drop k):=by
 intro j x hx
 rw[List.getElem?_drop]at hx
 obtain⟨v,h1,h2⟩:=h _ _ hx
 exact⟨v,by rw[<- Nat.add_assoc]at h1;exact h1,h2⟩
theorem rH {b off:Nat} {cs:List AV} (h:kb ρ H X w b off cs):
  ∃vs:List Value,vs.length=cs.length/\(∀(j:Nat) v,vs[j]?=some v->w.cell? ((⟨b,off,none⟩:Addr).add j)=some v)/\(∀(j:Nat) x,cs[j]?=some x-> ∃u:Value,vs[j]?=some u/\u.oneCell'=true/\x.rel ρ H X w u):=by
 induction cs generalizing off with
 |nil=>exact⟨[],rfl,fun j v hv=>by simp at hv,fun j x hx=>by simp at hx⟩
 |cons c cs ih=>
  obtain⟨v,h1,h2,h3⟩:=h 0 c rfl
  obtain⟨vs,l1,l2,l3⟩:=ih (off:=off+1) (jh (cs:=c::cs) h 1)
  refine⟨v::vs,by simp[l1],fun j u hu=>?_,fun j x hx=>?_⟩
  ·cases j with
   |zero=>simp at hu;subst hu;simpa[Addr.add_lit] using h1
   |succ j=>
    simp at hu
    have:=l2 j u hu
    rw[Addr.add_lit]at this⊢
    rw[<- this];congr 2;omega
  ·cases j with
   |zero=>simp at hx;subst hx;exact⟨v,rfl,h2,h3⟩
   |succ j=>simp at hx;obtain⟨u,h⟩:=l3 j x hx;exact⟨u,by simpa using h.1,h.2⟩
theorem kA {t:TypeId} {cs:List AV} {T:TV} {b off:Nat} (h:ax P t cs=some T) (hc:kb ρ H X w b off cs):
  ∃v,(loadVar t ⟨b,off,none⟩).run P w= .ok v w/\T.rel ρ H X w v:=by
 unfold ax at h
 split at h
 ·rename_i n hn ha
  split at h
  ·rename_i hl
   injection h with h
   subst h
   obtain⟨vs,l1,l2,l3⟩:=rH (cs:=cs.take n) (b:=b) (off:=off) (fun j x hx=>by
    rw[List.getElem?_take]at hx
    split at hx
    ·exact hc j x hx
    ·cases hx)
   refine⟨.agg vs.toArray,?_,vs.toArray,rfl,by simp[l1],fun j x hx=>?_⟩
   ·unfold loadVar
    rw[Sem.run_bind,li ha,Result.andThen_ok,if_pos rfl,Sem.run_bind,eQ hn,Result.andThen_ok]
    have:=run_loadCells_list (P:=P) w ⟨b,off,none⟩ vs l2
    rw[show vs.length=n by rw[l1,List.length_take];omega]at this
    rw[Sem.run_bind,this]
    rfl
   ·simpa using l3 j x hx
  ·cases h
 ·rename_i hn ha
  split at h
  ·rename_i x l
   injection h with h
   subst h
   obtain⟨v,h1,h2,h3⟩:=hc 0 x rfl
   refine⟨v,?_,h3⟩
   unfold loadVar
   rw[Sem.run_bind,li ha,Result.andThen_ok,if_neg (by simp),run_load]
   simp only[Nat.add_zero]at h1
   rw[h1]
  ·cases h
 ·cases h
theorem iv {cs:List PV} {v:Value} (h:cO X w (.ptr cs) v): ∃b off,v= .pointer (some ⟨b,off,none⟩)/\ ¬X b/\kb ρ H X w b off (cs.map AV.p):=by
 cases h with
 |ptr b off cs f hX hb hc hr=>
  refine⟨b,off,rfl,hX,fun j x hx=>?_⟩
  rw[List.getElem?_map]at hx
  cases hj:cs[j]? with
  |none=>rw[hj]at hx;cases hx
  |some y=>
   rw[hj]at hx
   simp at hx
   subst hx
   exact⟨f j,hc j y hj,(hr j y hj).one,hr j y hj⟩
theorem rK {cs:List PV} {b off k:Nat} (h:cO X w (.ptr cs) (.pointer (some ⟨b,off,none⟩))):cO X w (.ptr (cs.drop k)) (.pointer (some ⟨b,off+k,none⟩)):=by
 cases h with
 |ptr b off cs f hX hb hc hr=>
  refine .ptr b (off+k) (cs.drop k) (fun j=>f (k+j)) hX hb (fun j x hx=>?_) (fun j x hx=>?_)
  ·rw[List.getElem?_drop]at hx
   rw[Nat.add_assoc];exact hc _ _ hx
  ·rw[List.getElem?_drop]at hx
   exact hr _ _ hx
theorem p9 {a r:Nat} {o:OObj} {b c i:Nat} {e:List AV} (ho:objRel ρ H X w a r o) (hρ:ρ a r=some (b,c)) (he:o.elems[i]?=some e):kb ρ H X w b (i*o.es) e:=by
 obtain⟨_,_,h3⟩:=ho
 rw[hρ]at h3
 obtain⟨cells,hh,_,_,_,hv⟩:=h3
 intro j x hx
 obtain⟨v,h1,h2,h3⟩:=hv i e j x he hx
 refine⟨v,?_,h2,h3⟩
 unfold World.cell?
 simp only[hh]
 exact h1
theorem oB {z:Int} {n:Nat} (h:sH z=some n):0<=z/\z.toNat=n:=by
 unfold sH at h
 split at h
 ·injection h with h;exact⟨by assumption,h⟩
 ·cases h
theorem yA {ev:Operand->Option TV} {e:Operand->Value} (hev:gf ρ H X w ev e) (hob: ∀(a r:Nat) (o:OObj),(H a)[r]?=some o->objRel ρ H X w a r o)
  {o:Oper} {t:TypeId} {x:Operand} {T:TV} (ho:o.op= .load t x) (h:ao P ev H o.op=some T): ∃v,(execOp e o).run P w= .ok (.value v) w/\T.rel ρ H X w v:=by
 unfold execOp
 rw[ho]at h⊢
 simp only[ao]at h
 split at h
 ·rename_i cs hx
  obtain⟨b,off,hv,hX,hc⟩:=iv (ρ:=ρ) (H:=H) (hev x _ hx)
  obtain⟨v,h1,h2⟩:=kA h hc
  refine⟨v,eu ?_,h2⟩
  rw[hv]
  exact h1
 ·rename_i a r i j hx
  obtain⟨o',b,c,h1,h2,h3,hv⟩:=hev x _ hx
  split at h
  ·rename_i o'' ho'
   rw[h1]at ho'
   injection ho' with ho'
   subst ho'
   split at h
   ·rename_i el hel
    obtain⟨v,g1,g2⟩:=kA h (jh (p9 (hob a r _ h1) h2 hel) j)
    refine⟨v,eu ?_,g2⟩
    rw[hv]
    exact g1
   ·cases h
  ·cases h
 ·cases h
theorem nY {ev:Operand->Option TV} {e:Operand->Value} (hev:gf ρ H X w ev e) (hob: ∀(a r:Nat) (o:OObj),(H a)[r]?=some o->objRel ρ H X w a r o)
  {o:Oper} {t:TypeId} {x ix:Operand} {T:TV} (ho:o.op= .indexAddr t x ix) (h:ao P ev H o.op=some T): ∃v,(execOp e o).run P w= .ok (.value v) w/\T.rel ρ H X w v:=by
 unfold execOp
 rw[ho]at h⊢
 simp only[ao]at h
 split at h
 ·rename_i k n hix
  have hn:=(cW (hev ix _ hix)).1
  split at h
  ·cases h
  ·rename_i i hi
   obtain⟨h0,hi⟩:=oB hi
   split at h
   ·rename_i el xs hs hx
    have hx:=hev x _ hx
    split at h
    ·rename_i c hc
     split at h
     ·rename_i hsz
      injection h with h
      subst h
      generalize hvx:e x=vx at*
      have hil:i<xs.length:=(List.getElem?_eq_some_iff.1 hc).1
      cases hx with
      |nil a c=>simp at hil
      |sl b off es cap xs f hX hb hes hcap hm hcell hrep=>
       have hes':c.length=es:=hes c (List.mem_of_getElem? hc)
       refine⟨.pointer (some ⟨b,off+i*es,none⟩),eu ?_,.ptr b (off+i*es) c (f i) hX hb (fun j y hy=>hcell i c j y hc hy) (fun j y hy=>hrep i c j y hc hy)⟩
       unfold Instr.indexAt
       rw[hn,hvx,Sem.run_bind]
       show Result.andThen (.ok (k,n) w) _=_
       rw[Result.andThen_ok]
       simp only[Sem.run_bind,run_underlying (dH hs),Result.andThen_ok,Sem.run_pure]
       rw[if_pos ⟨h0,by omega⟩,Sem.run_bind,eQ hsz,Result.andThen_ok]
       rw[hi,Addr.add_lit,hes']
       rfl
     ·cases h
    ·cases h
   ·rename_i el a r off len hs hx
    obtain⟨o',h1,h2,h3⟩:=hev x _ hx
    split at h
    ·rename_i o'' ho'
     rw[h1]at ho'
     injection ho' with ho'
     subst ho'
     split at h
     ·rename_i hcond
      injection h with h
      subst h
      rcases h3 with⟨_,_,hlen,_⟩|⟨b,c,hρ,hv⟩
      ·omega
      ·refine⟨.pointer (some ⟨b,(off+i)*o'.es+0,none⟩),eu ?_,o',b,c,h1,hρ,by omega,rfl⟩
       unfold Instr.indexAt
       rw[hn,hv,Sem.run_bind]
       show Result.andThen (.ok (k,n) w) _=_
       rw[Result.andThen_ok]
       simp only[Sem.run_bind,run_underlying (dH hs),Result.andThen_ok,Sem.run_pure]
       rw[if_pos ⟨h0,by omega⟩,Sem.run_bind,eQ hcond.1,Result.andThen_ok]
       rw[hi,Addr.add_lit,Nat.add_zero,Nat.add_mul]
       rfl
     ·cases h
    ·cases h
   ·cases h
 ·cases h
theorem pw {ev:Operand->Option TV} {e:Operand->Value} (hev:gf ρ H X w ev e)
  {o:Oper} {t:TypeId} {x:Operand} {f:Nat} {T:TV} (ho:o.op= .fieldAddr t x f) (h:ao P ev H o.op=some T): ∃v,(execOp e o).run P w= .ok (.value v) w/\T.rel ρ H X w v:=by
 unfold execOp
 rw[ho]at h⊢
 simp only[ao]at h
 split at h
 ·rename_i off ft cs hf hx
  obtain⟨b,o0,hv,hX,hc⟩:=iv (ρ:=ρ) (H:=H) (hev x _ hx)
  have hx:=hev x _ hx
  split at h
  ·rename_i n hsz
   injection h with h
   subst h
   obtain⟨fs,d,h1,h2,h3,h4⟩:=jy hf
   rw[hv]at hx
   refine⟨_,eu ?_,rK hx⟩
   unfold Instr.fieldAt
   rw[Sem.run_bind,run_underlying h1,Result.andThen_ok]
   simp only[h2,hv,Instr.sureAddr,Sem.run_bind,Sem.run_pure,Result.andThen_ok,fieldPlace,h4,eQ hsz]
   rw[if_neg (by simp)]
   simp only[Sem.run_pure,Result.andThen_ok,h3,Addr.add_lit]
  ·cases h
 ·rename_i off ft a r i j hf hx
  obtain⟨o',b,c,g1,g2,g3,hv⟩:=hev x _ hx
  split at h
  ·rename_i n hsz
   injection h with h
   subst h
   obtain⟨fs,d,h1,h2,h3,h4⟩:=jy hf
   refine⟨_,eu ?_,o',b,c,g1,g2,g3,rfl⟩
   unfold Instr.fieldAt
   rw[Sem.run_bind,run_underlying h1,Result.andThen_ok]
   simp only[h2,hv,Instr.sureAddr,Sem.run_bind,Sem.run_pure,Result.andThen_ok,fieldPlace,h4,eQ hsz]
   rw[if_neg (by simp)]
   simp only[Sem.run_pure,Result.andThen_ok,h3,Addr.add_lit,Nat.add_assoc]
  ·cases h
 ·cases h
end
end
section
section
variable {P:Program} {ρ:eZ} {H:OH} {X:Nat->Prop} {w:World}
theorem vK {t:TypeId} {cs:List AV} {T:TV} {vs:Array Value} {off:Nat} (h:ax P t (cs.drop off)=some T) (hs:vs.size=cs.length)
  (hc: ∀(j:Nat) x,cs[j]?=some x-> ∃u:Value,vs[j]?=some u/\u.oneCell'=true/\x.rel ρ H X w u):
  ∃v,(part t vs off).run P w= .ok v w/\T.rel ρ H X w v:=by
 unfold ax at h
 split at h
 ·rename_i n hn ha
  split at h
  ·rename_i hl
   injection h with h
   subst h
   refine⟨.agg (vs.extract off (off+n)),?_,_,rfl,?_,fun j x hx=>?_⟩
   ·unfold part
    rw[Sem.run_bind,li ha,Result.andThen_ok,if_pos rfl,Sem.run_bind,eQ hn,Result.andThen_ok]
    rfl
   ·simp at hl⊢;omega
   ·rw[List.getElem?_take]at hx
    split at hx
    ·rename_i hj
     rw[List.getElem?_drop]at hx
     obtain⟨u,h1,h2⟩:=hc _ x hx
     refine⟨u,?_,h2⟩
     rw[Array.getElem?_extract,if_pos (by have:=(Array.getElem?_eq_some_iff.1 h1).1;omega)]
     exact h1
    ·cases hx
  ·cases h
 ·rename_i hn ha
  split at h
  ·rename_i x l hl
   injection h with h
   subst h
   have hx:cs[off]?=some x:=by
    have:(cs.drop off)[0]?=some x:=by rw[hl];rfl
    rw[List.getElem?_drop]at this;simpa using this
   obtain⟨u,h1,h2,h3⟩:=hc _ x hx
   refine⟨u,?_,h3⟩
   unfold part
   rw[Sem.run_bind,li ha,Result.andThen_ok,if_neg (by simp),h1]
   rfl
  ·cases h
 ·cases h
theorem u5 {ev:Operand->Option TV} {e:Operand->Value} (hev:gf ρ H X w ev e)
  {o:Oper} {t:TypeId} {x:Operand} {f:Nat} {T:TV} (ho:o.op= .field t x f) (h:ao P ev H o.op=some T): ∃v,(execOp e o).run P w= .ok (.value v) w/\T.rel ρ H X w v:=by
 unfold execOp
 rw[ho]at h⊢
 simp only[ao]at h
 split at h
 ·rename_i off ft cs hf hx
  obtain⟨vs,hv,hs,hc⟩:=hev x _ hx
  obtain⟨fs,d,h1,h2,h3,h4⟩:=jy hf
  obtain⟨v,g1,g2⟩:=vK h hs hc
  refine⟨v,eu ?_,g2⟩
  unfold Instr.field
  rw[Sem.run_bind,run_underlying h1,Result.andThen_ok]
  simp only[h2,hv,asAgg,Sem.run_bind,Sem.run_pure,Result.andThen_ok,h3,h4,g1]
 ·cases h
theorem kG {ev:Operand->Option TV} {e:Operand->Value} (hev:gf ρ H X w ev e) {x:Option Operand} {d n:Nat} (h:eS ev x d=some n):
  (x=none/\n=d)\/ ∃y k z,x=some y/\e y= .int k z/\0<=z/\z.toNat=n:=by
 unfold eS at h
 split at h
 ·injection h with h;exact .inl ⟨rfl,h.symm⟩
 ·rename_i dd y
  split at h
  ·rename_i k z hy
   obtain⟨h1,h2⟩:=oB h
   exact .inr ⟨y,k,z,rfl,(cW (hev y _ hy)).1,h1,h2⟩
  ·cases h
theorem fo {k:IntKind} {z:Int} {y n:Nat} {c:BoundsCode} (h0:0<=z) (hn:z.toNat=n) (hy:n<=y):(Instr.sliceBound (.int k z) y c).run P w= .ok n w:=by
 unfold Instr.sliceBound
 show(if 0<=z/\z<=y then(pure z.toNat:Sem Nat)else boundsPanic k z y c).run P w=_
 rw[if_pos ⟨h0,by omega⟩,hn]
 rfl
theorem d9 {ev:Operand->Option TV} {e:Operand->Value} (hev:gf ρ H X w ev e) {lo hi:Option Operand} {len cap l h:Nat} (hl:eS ev lo 0=some l) (hh:eS ev hi len=some h) (h1:l<=h) (h2:h<=cap):
  (Instr.sliceBounds true len cap (lo.map e) (hi.map e) none).run P w= .ok (l,h,cap) w:=by
 unfold Instr.sliceBounds
 rcases kG hev hl with⟨rfl,rfl⟩|⟨y,k,z,rfl,a1,a2,a3⟩
 ·rcases kG hev hh with⟨rfl,rfl⟩|⟨y',k',z',rfl,b1,b2,b3⟩
  ·rfl
  ·simp only[Option.map_some,Option.map_none,Sem.run_bind,Sem.run_pure,Result.andThen_ok,b1]
   rw[fo b2 b3 h2];rfl
 ·rcases kG hev hh with⟨rfl,rfl⟩|⟨y',k',z',rfl,b1,b2,b3⟩
  ·simp only[Option.map_some,Option.map_none,Sem.run_bind,Sem.run_pure,Result.andThen_ok,a1]
   rw[fo a2 a3 h1];rfl
  ·simp only[Option.map_some,Option.map_none,Sem.run_bind,Sem.run_pure,Result.andThen_ok,a1,b1]
   rw[fo b2 b3 h2,Result.andThen_ok,fo a2 a3 h1];rfl
theorem uP {ev:Operand->Option TV} {e:Operand->Value} (hev:gf ρ H X w ev e) (hob: ∀(a r:Nat) (o:OObj),(H a)[r]?=some o->objRel ρ H X w a r o)
  {o:Oper} {t:TypeId} {x:Operand} {lo hi mx:Option Operand} {T:TV} (ho:o.op= .slice t x lo hi mx) (h:ao P ev H o.op=some T): ∃v,(execOp e o).run P w= .ok (.value v) w/\T.rel ρ H X w v:=by
 unfold execOp
 rw[ho]at h⊢
 cases mx with
 |some _=>simp only[ao]at h;cases h
 |none=>
 simp only[ao]at h
 split at h
 ·rename_i el xs hs hx
  have hx:=hev x _ hx
  generalize hvx:e x=vx at*
  split at h
  ·rename_i l hh n hl hhi hsz
   split at h
   ·rename_i hcond
    injection h with h
    subst h
    obtain⟨c1,c2,c3⟩:=hcond
    have hu:=dH hs
    cases hx with
    |nil a c=>
     have hh0:hh=0:=by simpa using c2
     subst hh0
     have hl0:l=0:=by omega
     subst hl0
     refine⟨.slice (if c=0 then a else a.map (·.add (0*n))) (0-0) (c-0),eu ?_,?_⟩
     ·unfold Instr.sliceAt
      simp only[Sem.run_bind,run_underlying hu,Result.andThen_ok]
      unfold Instr.slice
      simp only[Sem.run_bind,run_underlying hu,Result.andThen_ok,hvx,Option.map_none]
      rw[d9 hev hl (show eS ev hi 0=some 0 from hhi) (Nat.le_refl _) (Nat.zero_le _),Result.andThen_ok]
      simp only[Sem.run_bind,eQ hsz,Result.andThen_ok,Sem.run_pure]
     ·simp only[List.take_nil,List.drop_nil]
      exact cO.nil _ _
    |sl b off es cap xs f hX hb hes hcap hm hcell hrep=>
     refine⟨.slice (if cap=l then some ⟨b,off,none⟩else(some (⟨b,off,none⟩:Addr)).map (·.add (l*n))) (hh-l) (cap-l),eu ?_,?_⟩
     ·unfold Instr.sliceAt
      simp only[Sem.run_bind,run_underlying hu,Result.andThen_ok]
      unfold Instr.slice
      simp only[Sem.run_bind,run_underlying hu,Result.andThen_ok,hvx,Option.map_none]
      rw[d9 hev hl hhi c1 (by omega),Result.andThen_ok]
      simp only[Sem.run_bind,eQ hsz,Result.andThen_ok,Sem.run_pure]
     ·show cO _ _ _ _
      have hlen:((xs.take hh).drop l).length=hh-l:=by simp;omega
      by_cases hlh:l=hh
      ·subst hlh
       rw[show(xs.take l).drop l=[] by rw[List.drop_eq_nil_iff];simp;omega]
       rw[Nat.sub_self]
       exact cO.nil _ _
      ·rw[if_neg (by omega)]
       simp only[Option.map_some,Addr.add_lit]
       rw[<- hlen]
       have hes':es=n:=by
        cases hx0:xs with
        |nil=>rw[hx0]at c2;simp at c2;omega
        |cons y ys=>have h1:=hes y (by rw[hx0];simp);have h2:=c3 y (by rw[hx0];simp);omega
       subst hes'
       have hsub: ∀(i:Nat) y,((xs.take hh).drop l)[i]?=some y->xs[l+i]?=some y:=fun i y hy=>by
        rw[List.getElem?_drop,List.getElem?_take]at hy
        split at hy
        ·exact hy
        ·cases hy
       refine .sl b (off+l*es) es (cap-l) _ (fun i j=>f (l+i) j) hX hb (fun y hy=>hes y (List.mem_of_mem_take (List.mem_of_mem_drop hy))) (by rw[hlen];omega) (by rw[hlen];omega) (fun i y j z h1 h2=>?_) (fun i y j z h1 h2=>hrep _ y j z (hsub i y h1) h2)
       have:=hcell _ y j z (hsub i y h1) h2
       rw[<- this]
       congr 2
       rw[Nat.add_mul];omega
   ·cases h
  ·cases h
 ·rename_i el a r off len hs hx
  obtain⟨o',g1,g2,g3⟩:=hev x _ hx
  have hu:=dH hs
  split at h
  ·rename_i l hh o'' hl hhi ho''
   rw[g1]at ho''
   injection ho'' with ho''
   subst ho''
   have hcle: ∀b c,ρ a r=some (b,c)->o'.elems.length<=c:=fun b c hρ=>by
    obtain⟨_,_,h3⟩:=hob a r o' g1
    rw[hρ]at h3
    obtain⟨_,_,_,h,_⟩:=h3
    exact h
   split at h
   ·rename_i hcond
    obtain⟨c1,c2,c3⟩:=hcond
    injection h with h
    subst h
    rcases g3 with⟨_,_,h0,_⟩|⟨b,c,hρ,hv⟩
    ·omega
    ·have:=hcle b c hρ
     refine⟨_,eu ?_,o',g1,by omega,.inr ⟨b,c,hρ,rfl⟩⟩
     unfold Instr.sliceAt
     simp only[Sem.run_bind,run_underlying hu,Result.andThen_ok]
     unfold Instr.slice
     simp only[Sem.run_bind,run_underlying hu,Result.andThen_ok,hv,Option.map_none]
     rw[d9 hev hl hhi (by omega) (by omega),Result.andThen_ok]
     simp only[Sem.run_bind,eQ c1,Result.andThen_ok,Sem.run_pure]
     rw[if_neg (by omega)]
     simp only[Option.map_some,Addr.add_lit]
     rw[Nat.add_mul,Nat.sub_sub]
   ·split at h
    ·rename_i hcond
     obtain⟨c1,c2,c3⟩:=hcond
     injection h with h
     subst h
     subst c2
     rcases g3 with⟨_,hv,h0,_⟩|⟨b,c,hρ,hv⟩
     ·refine⟨.slice (if 0=l then none else(none:Option Addr).map (·.add (l*o'.es))) 0 (0-l),eu ?_,cO.nil _ _⟩
      unfold Instr.sliceAt
      simp only[Sem.run_bind,run_underlying hu,Result.andThen_ok]
      unfold Instr.slice
      simp only[Sem.run_bind,run_underlying hu,Result.andThen_ok,hv,Option.map_none]
      subst h0
      rw[d9 hev hl hhi (by omega) (by omega),Result.andThen_ok]
      simp only[Sem.run_bind,eQ c1,Result.andThen_ok,Sem.run_pure,Nat.sub_self]
     ·have:=hcle b c hρ
      refine⟨.slice (if c-off=l then some ⟨b,off*o'.es,none⟩else(some (⟨b,off*o'.es,none⟩:Addr)).map (·.add (l*o'.es))) 0 (c-off-l),eu ?_,cO.nil _ _⟩
      unfold Instr.sliceAt
      simp only[Sem.run_bind,run_underlying hu,Result.andThen_ok]
      unfold Instr.slice
      simp only[Sem.run_bind,run_underlying hu,Result.andThen_ok,hv,Option.map_none]
      rw[d9 hev hl hhi (by omega) (by omega),Result.andThen_ok]
      simp only[Sem.run_bind,eQ c1,Result.andThen_ok,Sem.run_pure,Nat.sub_self]
    ·cases h
  ·cases h
 ·cases h
theorem pM {ev:Operand->Option TV} {e:Operand->Value} (hev:gf ρ H X w ev e)
  {o:Oper} {x:Operand} {T:TV} (ho:o.op= .nilCheck x) (h:ao P ev H o.op=some T): ∃v,(execOp e o).run P w= .ok (.value v) w/\T.rel ρ H X w v:=by
 unfold execOp
 rw[ho]at h⊢
 simp only[ao]at h
 split at h
 ·rename_i cs hx
  obtain⟨b,off,hv,hX,hc⟩:=iv (ρ:=ρ) (H:=H) (hev x _ hx)
  injection h with h
  subst h
  refine⟨e x,?_,hev x _ hx⟩
  simp only[hv];rfl
 ·rename_i a r i j hx
  have hr:=hev x _ hx
  obtain⟨o',b,c,h1,h2,h3,hv⟩:=hr
  injection h with h
  subst h
  refine⟨e x,?_,hev x _ hx⟩
  simp only[hv];rfl
 ·cases h
theorem Cj {t e ty:TypeId} {a:Option Addr} {n c:Nat} (ht:P.underlying t=some (.slice e)):(Builtin.len_ #[t] ty #[.slice a n c]).run P w= .ok (goInt n) w:=by
 simp[Builtin.len_,run_underlying ht]
theorem An {ev:Operand->Option TV} {e:Operand->Value} (hev:gf ρ H X w ev e)
  {o:Oper} {args:Array Operand} {argTypes:Array TypeId} {T:TV} (ho:o.op= .call {callee:= .builtin .len,args,argTypes}) (h:ao P ev H o.op=some T): ∃v,(execOp e o).run P w= .ok (.value v) w/\T.rel ρ H X w v:=by
 unfold execOp
 rw[ho]at h⊢
 simp only[ao]at h
 obtain⟨args⟩:=args
 obtain⟨argTypes⟩:=argTypes
 split at h
 ·rename_i x t hx ht
  simp only at hx ht
  subst hx ht
  have key: ∀a n c el,dW P t=some el->e x= .slice a n c->T= .raw (.int .i64 n)-> ∃v,(do let d<- resolve e {callee:= .builtin .len,args:=⟨[x]⟩,argTypes:=⟨[t]⟩} o.type;invoke d.target d.args:Sem Next).run P w= .ok (.value v) w/\T.rel ρ H X w v:=by
   intro a n c el hs hv hT
   subst hT
   refine⟨.int .i64 n,?_,eE rfl⟩
   simp only[resolve,invoke,builtin,Sem.run_bind,Sem.run_pure,Result.andThen_ok,List.map_toArray,List.map_cons,List.map_nil,hv,Cj (dH hs)]
   rfl
  split at h
  ·rename_i el xs hs hx
   injection h with h
   have hx:=hev x _ hx
   generalize hvx:e x=vx at hx
   cases hx with
   |nil a c=>exact key _ _ _ _ hs hvx h.symm
   |sl b off es cap xs f=>exact key _ _ _ _ hs hvx h.symm
  ·rename_i el a r off len hs hx
   injection h with h
   obtain⟨o',g1,g2,g3⟩:=hev x _ hx
   rcases g3 with⟨_,hv,h0,_⟩|⟨b,c,hρ,hv⟩
   ·subst h0;exact key _ _ _ _ hs hv h.symm
   ·exact key _ _ _ _ hs hv h.symm
  ·rename_i el a n c hs hx
   injection h with h
   exact key _ _ _ _ hs (cW (hev x _ hx)).1 h.symm
  ·cases h
 ·cases h
end
end
section
section
variable {P:Program} {ρ:eZ} {H:OH} {X:Nat->Prop} {w:World}
def jS (ρ:eZ) (H:OH) (X:Nat->Prop) (w:World) (cs:List AV) (vs:Array Value):Prop:=
 vs.size=cs.length/\ ∀(j:Nat) x,cs[j]?=some x-> ∃u:Value,vs[j]?=some u/\u.oneCell'=true/\x.rel ρ H X w u
theorem iL {v:Value} (h:v.oneCell'=true):v.cells= #[v]:=by cases v<;>first|rfl|cases h
theorem ir {t:TV} {cs:List AV} {v:Value} (h:cellsOf t=some cs) (hr:t.rel ρ H X w v):jS ρ H X w cs v.cells:=by
 unfold cellsOf at h
 split at h
 ·rename_i x
  injection h with h
  subst h
  have h1:v.oneCell'=true:=cO.one hr
  rw[iL h1]
  refine⟨rfl,fun j y hy=>?_⟩
  cases j with
  |zero=>simp at hy;subst hy;exact⟨v,rfl,h1,hr⟩
  |succ j=>simp at hy
 ·injection h with h
  subst h
  obtain⟨vs,rfl,h1,h2⟩:=hr
  exact⟨h1,h2⟩
 ·cases h
theorem un {z:List Value} (h:z.all (·.oneCell')=true):jS ρ H X w (z.map AV.raw) z.toArray:=by
 simp only[List.all_eq_true]at h
 refine⟨by simp,fun j x hx=>?_⟩
 rw[List.getElem?_map]at hx
 cases hj:z[j]? with
 |none=>rw[hj]at hx;cases hx
 |some u=>
  rw[hj]at hx
  simp at hx
  subst hx
  have h1:=h u (List.mem_of_getElem? hj)
  exact⟨u,by simpa using hj,h1,cO.raw u h1⟩
theorem mm (off:Nat): ∀(vs:List Value) (k:Nat) (cells:Array Value),off+k+vs.length<=cells.size->
  ((vs.zipIdx k).foldl (fun cs (c,j)=>cs.setIfInBounds (off+j) c) cells).size=cells.size/\
  ∀j:Nat,((vs.zipIdx k).foldl (fun cs (c,j)=>cs.setIfInBounds (off+j) c) cells)[j]?=if off+k<=j/\j<off+k+vs.length then vs[j-(off+k)]? else cells[j]?
 |[],k,cells,_=>⟨rfl,fun j=>by rw[if_neg (by simp)];rfl⟩
 |v::vs,k,cells,h=>by
  simp at h
  obtain⟨h1,h2⟩:=mm off vs (k+1) (cells.setIfInBounds (off+k) v) (by simp;omega)
  simp only[List.zipIdx_cons,List.foldl_cons]
  refine⟨by rw[h1];simp,fun j=>?_⟩
  rw[h2]
  by_cases hj:j=off+k
  ·subst hj
   rw[if_neg (by omega),if_pos (by simp)]
   rw[Array.getElem?_setIfInBounds_self_of_lt (by omega)]
   simp
  ·by_cases hr:off+(k+1)<=j/\j<off+(k+1)+vs.length
   ·rw[if_pos hr,if_pos (by simp;omega)]
    rw[show j-(off+k)=(j-(off+(k+1)))+1 by omega,List.getElem?_cons_succ]
   ·rw[if_neg hr,if_neg (by simp;omega),Array.getElem?_setIfInBounds_ne (by omega)]
theorem rE {α:Type} {l ys:List α} {off:Nat} (h:off+ys.length<=l.length) (j:Nat):
  (l.take off++ys++l.drop (off+ys.length))[j]?=if off<=j/\j<off+ys.length then ys[j-off]? else l[j]?:=by
 have hlt:(l.take off).length=off:=by simp;omega
 by_cases h1:j<off
 ·rw[if_neg (by omega),List.append_assoc,List.getElem?_append_left (by omega),List.getElem?_take,if_pos h1]
 ·by_cases h2:j<off+ys.length
  ·rw[if_pos ⟨by omega,h2⟩,List.append_assoc,List.getElem?_append_right (by omega),hlt,List.getElem?_append_left (by omega)]
  ·rw[if_neg (by omega),List.getElem?_append_right (by simp;omega),List.getElem?_drop]
   congr 1
   simp
   omega
theorem AN {cs ys:List AV} {vs us:Array Value} {off:Nat} (h1:jS ρ H X w cs vs) (h2:jS ρ H X w ys us) (h:off+ys.length<=cs.length):
  jS ρ H X w (cs.take off++ys++cs.drop (off+ys.length)) (us.zipIdx.foldl (fun cs (c,j)=>cs.setIfInBounds (off+j) c) vs):=by
 obtain⟨us⟩:=us
 have hul:us.length=ys.length:=h2.1
 have hf:=mm off us 0 vs (by rw[h1.1];simp;omega)
 have e:(us.toArray.zipIdx.foldl (fun cs (c,j)=>cs.setIfInBounds (off+j) c) vs)=((us.zipIdx 0).foldl (fun cs (c,j)=>cs.setIfInBounds (off+j) c) vs):=by
  rw[<- Array.foldl_toList];simp
 rw[e]
 refine⟨by rw[hf.1,h1.1];simp;omega,fun j x hx=>?_⟩
 rw[rE h]at hx
 rw[hf.2 j]
 split at hx
 ·rename_i hj
  rw[if_pos (by omega)]
  obtain⟨u,h3,h4⟩:=h2.2 _ _ hx
  exact⟨u,by simpa using h3,h4⟩
 ·rename_i hj
  rw[if_neg (by omega)]
  exact h1.2 _ _ hx
theorem ov {pl:List (Nat×Nat)} {ev:Operand->Option TV} {e:Operand->Value} (hev:gf ρ H X w ev e): ∀(parts:List (Nat×Operand)) (cs cs':List AV) (vs:Array Value),
  jS ρ H X w cs vs->ex pl ev cs parts=some cs'-> ∃vs',Instr.fill (pl.toArray[·]?) vs (parts.map fun(i,x)=>(i,e x))=some vs'/\jS ρ H X w cs' vs'
 |[],cs,cs',vs,h,hf=>by simp only[ex]at hf;injection hf with hf;subst hf;exact⟨vs,rfl,h⟩
 |(f,x)::rest,cs,cs',vs,h,hf=>by
  simp only[ex]at hf
  split at hf
  ·rename_i off n ys hp hx
   obtain⟨t,ht,hys⟩:=Option.bind_eq_some_iff.1 hx
   split at hf
   ·rename_i hc
    obtain⟨c1,c2⟩:=hc
    subst c1
    have hr:=ir hys (hev x t ht)
    have h2:=AN h hr c2
    obtain⟨vs',h3,h4⟩:=ov hev rest _ cs' _ h2 hf
    refine⟨vs',?_,h4⟩
    simp only[List.map_cons,Instr.fill]
    have hp':pl.toArray[f]?=some (off,ys.length):=by simpa using hp
    rw[hp']
    simp only
    rw[if_neg]
    ·exact h3
    ·simp only[Bool.or_eq_true,decide_eq_true_eq]
     have:=hr.1
     have:=h.1
     omega
   ·cases hf
  ·cases hf
theorem vn {ev:Operand->Option TV} {e:Operand->Value} (hev:gf ρ H X w ev e)
  {o:Oper} {t:TypeId} {parts:Array (Nat×Operand)} {T:TV} (ho:o.op= .build t parts) (h:ao P ev H o.op=some T): ∃v,(execOp e o).run P w= .ok (.value v) w/\T.rel ρ H X w v:=by
 unfold execOp
 rw[ho]at h⊢
 simp only[ao]at h
 split at h
 ·rename_i z pl hz hpl
  split at h
  ·rename_i hall
   cases hf:ex pl ev (z.map AV.raw) parts.toList with
   |none=>rw[hf]at h;cases h
   |some cs=>
    rw[hf]at h
    simp at h
    subst h
    obtain⟨vs,h1,h2,h3⟩:=ov hev parts.toList _ cs _ (un hall) hf
    refine⟨.agg vs,eu (run_build w t _ vs ?_),vs,rfl,h2,h3⟩
    unfold Program.built
    unfold gV at hz
    cases hi:P.info? t with
    |none=>rw[hi]at hz;cases hz
    |some it=>
     rw[hi]at hz
     unfold nC at hpl
     cases hu:P.underlying t with
     |none=>rw[hu]at hpl;cases hpl
     |some d=>
      rw[hu]at hpl
      cases d<;>simp at hpl
      rename_i fs
      cases hzz:it.zero with
      |none=>simp[hzz]at hz
      |some zv=>
       simp[hzz]at hz
       subst hz
       simp only[hpl,hzz]
       rw[<- h1]
       simp
  ·cases h
 ·cases h
theorem d5 {ev:Operand->Option TV}: ∀{l:List Operand} {ts:List TV},aQ ev l=some ts->ts.length=l.length/\ ∀(j:Nat) t,ts[j]?=some t-> ∃x,l[j]?=some x/\ev x=some t
 |[],ts,h=>by simp only[aQ]at h;injection h with h;subst h;exact⟨rfl,fun j t h=>by simp at h⟩
 |x::l,ts,h=>by
  simp only[aQ]at h
  split at h
  ·rename_i t ts' h1 h2
   injection h with h
   subst h
   obtain⟨g1,g2⟩:=d5 h2
   refine⟨by simp[g1],fun j u hu=>?_⟩
   cases j with
   |zero=>simp at hu;subst hu;exact⟨x,rfl,h1⟩
   |succ j=>simp at hu;obtain⟨y,y1,y2⟩:=g2 j u hu;exact⟨y,by simpa using y1,y2⟩
  ·cases h
theorem kC: ∀{ts:List TV} {cs:List AV},jB ts=some cs->cs.length=ts.length/\ ∀(j:Nat) x,cs[j]?=some x->ts[j]?=some (.one x)/\x≠ .junk
 |[],cs,h=>by simp only[jB]at h;injection h with h;subst h;exact⟨rfl,fun j x h=>by simp at h⟩
 |t::l,cs,h=>by
  cases t with
  |one x=>
   by_cases hx:x= .junk
   ·subst hx;simp only[jB]at h;cases h
   ·have key:jB (.one x::l)=(match jB l with|some cs=>some (x::cs)|none=>none):=by
     cases x<;>first|rfl|exact absurd rfl hx
    rw[key]at h
    split at h
    ·rename_i cs' hcs
     injection h with h
     subst h
     obtain⟨g1,g2⟩:=kC hcs
     refine⟨by simp[g1],fun j y hy=>?_⟩
     cases j with
     |zero=>simp at hy;subst hy;exact⟨rfl,hx⟩
     |succ j=>simp at hy;obtain⟨y1,y2⟩:=g2 j y hy;exact⟨by simpa using y1,y2⟩
    ·cases h
  |agg cs'=>simp only[jB]at h;cases h
  |tup ts=>simp only[jB]at h;cases h
  |fn f cs'=>simp only[jB]at h;cases h
theorem DX {x:AV} {v:Value} (hx:x≠ .junk) (h:x.rel ρ H X w v):v.oneCell'=true:=by
 cases x with
 |p x=>exact cO.one h
 |sl a r off len=>
  obtain⟨o,_,_,h|⟨b,c,_,h⟩⟩:=h
  ·rw[h.2.1];rfl
  ·rw[h];rfl
 |ptr a r i j=>obtain⟨o,b,c,_,_,_,h⟩:=h;rw[h];rfl
 |junk=>exact absurd rfl hx
theorem pQ {ev:Operand->Option TV} {e:Operand->Value} (hev:gf ρ H X w ev e)
  {o:Oper} {fn:Fn} {first captured:Array Operand} {T:TV} (ho:o.op= .makeFunc fn first captured) (h:ao P ev H o.op=some T): ∃v,(execOp e o).run P w= .ok (.value v) w/\T.rel ρ H X w v:=by
 rw[ho]at h
 cases fn with
 |func f=>
  simp only[ao]at h
  split at h
  ·rename_i hf
   obtain⟨cs,hcs,rfl⟩:=Option.map_eq_some_iff.1 h
   obtain⟨ts,hts,hc⟩:=Option.bind_eq_some_iff.1 hcs
   obtain⟨e1,e2⟩:=d5 hts
   obtain⟨g1,g2⟩:=kC hc
   refine⟨.func (.func f) #[] (captured.map e),?_,.agg (captured.map e),⟨captured.map e,rfl,?_,fun j x hx=>?_⟩,rfl⟩
   ·unfold execOp
    rw[ho]
    simp only
    refine eu ?_
    rw[Array.isEmpty_iff]at hf
    subst hf
    simp only[Instr.makeFunc,Array.map_empty,Sem.run_pure]
   ·simp at e1⊢;omega
   ·obtain⟨h1,h2⟩:=g2 j x hx
    obtain⟨y,y1,y2⟩:=e2 j _ h1
    have hr:=hev y _ y2
    refine⟨e y,?_,DX h2 hr,hr⟩
    rw[Array.getElem?_map];simp at y1;rw[y1];rfl
  ·cases h
 |_=>simp only[ao]at h;cases h
theorem vC {ev:Operand->Option TV} {e:Operand->Value} (hev:gf ρ H X w ev e) (hob: ∀(a r:Nat) (o:OObj),(H a)[r]?=some o->objRel ρ H X w a r o)
  {o:Oper} {T:TV} (h:ao P ev H o.op=some T): ∃v,(execOp e o).run P w= .ok (.value v) w/\T.rel ρ H X w v:=by
 cases ho:o.op
 case load t x=>exact yA hev hob ho h
 case indexAddr t x i=>exact nY hev hob ho h
 case fieldAddr t x f=>exact pw hev ho h
 case field t x f=>exact u5 hev ho h
 case slice t x lo hi mx=>exact uP hev hob ho h
 case build t parts=>exact vn hev ho h
 case nilCheck x=>exact pM hev ho h
 case makeFunc fn first captured=>exact pQ hev ho h
 case call c=>
  obtain⟨callee,args,argTypes⟩:=c
  cases callee with
  |builtin b=>
   cases b
   case len=>exact An hev ho h
   all_goals (rw[ho]at h;simp only[ao]at h;cases h)
  |value f=>rw[ho]at h;simp only[ao]at h;cases h
  |invoke r m=>rw[ho]at h;simp only[ao]at h;cases h
 all_goals (rw[ho]at h;simp only[ao]at h;cases h)
end
end
section
section
variable {P:Program} {w0 w w':World} {O X:Nat->Prop} {ρ:eZ} {H:OH}
theorem Ext.stays {Y:Nat->Prop} (h:Ext w w'):DE Y w w':=⟨h.size,fun _ _ _ hc=>h.cell hc⟩
theorem Keep.ext (h:Keep O w0 w) (e:Ext w w'):Keep O w0 w':=
 ⟨e.os.trans h.os,e.tape.trans h.tape,e.output.trans h.output,Nat.le_trans h.size e.size,fun k hk ho=>by
  rw[e.block k (Nat.lt_of_lt_of_le hk h.size)];exact h.block k hk ho⟩
theorem Keep.refl (w:World):Keep O w w:=⟨rfl,rfl,rfl,Nat.le_refl _,fun _ _ _=>rfl⟩
theorem AV.rel_ext {Y:Nat->Prop} {x:AV} {v:Value} (e:Ext w w') (h:x.rel ρ H Y w v):x.rel ρ H Y w' v:=by
 cases x with
 |p x=>exact cO.stays e.stays h
 |sl a r off len=>exact h
 |ptr a r i j=>exact h
 |junk=>exact h
theorem ku {ρ':eZ} {H':OH} {Y Y':Nat->Prop} {cs:List AV} {v:Value} (h:cE ρ H Y w cs v) (k: ∀x v,x.rel ρ H Y w v->AV.rel ρ' H' Y' w' x v):cE ρ' H' Y' w' cs v:=by
 obtain⟨vs,h1,h2,h3⟩:=h
 exact⟨vs,h1,h2,fun j x hx=>by obtain⟨u,h1,h2,h3⟩:=h3 j x hx;exact⟨u,h1,h2,k _ _ h3⟩⟩
theorem TV.rel_map {ρ':eZ} {H':OH} {Y Y':Nat->Prop} {t:TV} {v:Value} (h:t.rel ρ H Y w v) (k: ∀x v,x.rel ρ H Y w v->AV.rel ρ' H' Y' w' x v):t.rel ρ' H' Y' w' v:=by
 cases t with
 |one x=>exact k _ _ h
 |agg cs=>exact ku h k
 |fn f cs=>obtain⟨u,h1,h2⟩:=h;exact⟨u,ku h1 k,h2⟩
 |tup ts=>
  obtain⟨vs,h1,h2,h3⟩:=h
  refine⟨vs,h1,h2,fun j b cs hx=>?_⟩
  obtain⟨u,h1,h2⟩:=h3 j b cs hx
  refine⟨u,h1,?_⟩
  rcases h2 with⟨h2,h3⟩|⟨h2,x,h3,h4⟩
  ·exact .inl ⟨h2,ku h3 k⟩
  ·exact .inr ⟨h2,x,h3,k _ _ h4⟩
theorem dV {ρ':eZ} {H':OH} {Y Y':Nat->Prop} {a r:Nat} {o:OObj} (h:objRel ρ H Y w a r o) (hρ:ρ' a r=ρ a r) (hb: ∀b c,ρ a r=some (b,c)->w'.heap[b]?=w.heap[b]?) (k: ∀x v,x.rel ρ H Y w v->AV.rel ρ' H' Y' w' x v):objRel ρ' H' Y' w' a r o:=by
 obtain⟨h1,h2,h3⟩:=h
 refine⟨h1,h2,?_⟩
 rw[hρ]
 cases hr:ρ a r with
 |none=>rw[hr]at h3;exact h3
 |some bc=>
  obtain⟨b,c⟩:=bc
  rw[hr]at h3
  obtain⟨cells,g1,g2,g3,g4,g5⟩:=h3
  refine⟨cells,by rw[hb b c hr];exact g1,g2,g3,g4,fun i e j x he hx=>?_⟩
  obtain⟨v,p1,p2,p3⟩:=g5 i e j x he hx
  exact⟨v,p1,p2,k _ _ p3⟩
theorem cK {Y:Nat->Prop} {a r:Nat} {o:OObj} {b c:Nat} (h:objRel ρ H Y w a r o) (hρ:ρ a r=some (b,c)):b<w.heap.size:=by
 obtain⟨_,_,h3⟩:=h
 rw[hρ]at h3
 obtain⟨cells,g1,_⟩:=h3
 exact(Array.getElem?_eq_some_iff.1 g1).1
def cn (X:Nat->Prop) (ρ:eZ) (s:AS) (a:Act) (w:World):Prop:= ∀(t:Nat) x,s.tmps[t]?=some x-> ∃v:Value,a.tmps[t]?=some v/\x.rel ρ s.H (Xo X ρ s.H) w v
theorem dD {s:AS} {a:Act} (h:cn X ρ s a w):gf ρ s.H (Xo X ρ s.H) w s.ev a.eval:=by
 intro x t hx
 cases x with
 |tmp k=>
  obtain⟨v,h1,h2⟩:=h k t hx
  simp only[Act.eval,Array.getD_eq_getD_getElem?,h1,Option.getD_some]
  exact h2
 |const v=>simp only[AS.ev]at hx;injection hx with hx;subst hx;exact t8 v
 |global g=>simp only[AS.ev]at hx;injection hx with hx;subst hx;exact eE rfl
 |func f=>simp only[AS.ev]at hx;injection hx with hx;subst hx;exact eE rfl
theorem jN (a:Act) (d:Option Tmp) (v:Value):(a.put d v).tmps.size=a.tmps.size:=by cases d<;>simp[Act.put]
theorem er (s:AS) (d:Option Tmp) (t:TV):(s.put d t).tmps.length=s.tmps.length:=by cases d<;>simp[AS.put]
theorem gZ (s:AS) (d:Option Tmp) (t:TV):(s.put d t).H=s.H:=by cases d<;>rfl
theorem gX (a:Act) (d:Option Tmp) (v:Value):(a.put d v).defers=a.defers:=by cases d<;>rfl
theorem pc {s:AS} {a:Act} {d:Option Tmp} {t:TV} {v:Value} (hsz:a.tmps.size=s.tmps.length) (h:cn X ρ s a w) (hv:t.rel ρ s.H (Xo X ρ s.H) w v):cn X ρ (s.put d t) (a.put d v) w:=by
 intro k x hx
 rw[gZ]
 cases d with
 |none=>exact h k x hx
 |some d=>
  simp only[AS.put]at hx
  simp only[Act.put]
  by_cases hk:d=k
  ·subst hk
   rw[List.getElem?_set]at hx
   simp at hx
   obtain⟨hl,hx⟩:=hx
   subst hx
   exact⟨v,by rw[Array.getElem?_setIfInBounds_self_of_lt (by omega)],hv⟩
  ·rw[List.getElem?_set_ne hk]at hx
   rw[Array.getElem?_setIfInBounds_ne hk]
   exact h k x hx
theorem fG {s:AS} {a:Act} {d:Option Tmp} {t:TV} {v:Value} (h1:a.defers=[]) (hsz:a.tmps.size=s.tmps.length) (hinv:gU w0 O X s.H ρ w) (h:cn X ρ s a w) (hv:t.rel ρ s.H (Xo X ρ s.H) w v):fM w0 O X (s.put d t) (a.put d v) w:=by
 refine⟨by rw[gX];exact h1,by rw[jN,er];exact hsz,ρ,by rw[gZ];exact hinv,?_⟩
 exact pc hsz h hv
theorem gU.grow (h:gU w0 O X H ρ w) (e:Ext w w'):gU w0 O X H ρ w':=
 ⟨h.keep.ext e,fun a r o ho=>dV (h.objs a r o ho) rfl (fun b c hb=>e.block b (cK (h.objs a r o ho) hb)) (fun _ _ hr=>AV.rel_ext e hr),h.inj,h.old,fun b hb=>Nat.lt_of_lt_of_le (h.bar b hb) e.size,h.self⟩
theorem cn.grow {s:AS} {a:Act} (h:cn X ρ s a w) (e:Ext w w'):cn X ρ s a w':=fun t x hx=>by
 obtain⟨v,h1,h2⟩:=h t x hx
 exact⟨v,h1,TV.rel_map h2 (fun _ _ hr=>AV.rel_ext e hr)⟩
def newρ (ρ:eZ) (d:Nat) (f:Nat->Option (Nat×Nat)):eZ:=fun a r=>if a=d then f r else ρ a r
theorem bv {H:OH} {d a:Nat} {F:List OObj} (h:a≠d):au H d F a=H a:=if_neg h
theorem bV {H:OH} {d:Nat} {F:List OObj}:au H d F d=F:=if_pos rfl
theorem newρ_ne {d a:Nat} {f:Nat->Option (Nat×Nat)} (h:a≠d) (r:Nat):newρ ρ d f a r=ρ a r:=if_neg h
theorem newρ_eq {d:Nat} {f:Nat->Option (Nat×Nat)} (r:Nat):newρ ρ d f d r=f r:=if_pos rfl
theorem jA (hinv:gU w0 O X H ρ w) (e:Ext w w') {d:Nat} {F:List OObj} (hd:H d=[]) {f:Nat->Option (Nat×Nat)} (hnew: ∀r b c,f r=some (b,c)->w.heap.size<=b) {x:AV} {v:Value}
  (h:x.rel ρ H (Xo X ρ H) w v):x.rel (newρ ρ d f) (au H d F) (Xo X (newρ ρ d f) (au H d F)) w' v:=by
 have hne: ∀(a r:Nat) o,(H a)[r]?=some o->a≠d:=fun a r o ho ha=>by rw[ha,hd]at ho;simp at ho
 cases x with
 |p x=>
  refine cO.stays e.stays (cO.weaken (fun b hb hX=>?_) h)
  rcases hX with hX|⟨a,r,o,c,h1,h2⟩
  ·exact .inl hX
  ·by_cases ha:a=d
   ·subst ha
    rw[newρ_eq]at h2
    have:=hnew r b c h2
    omega
   ·rw[newρ_ne ha]at h2
    rw[bv ha]at h1
    exact .inr ⟨a,r,o,c,h1,h2⟩
 |sl a r off len=>
  obtain⟨o,h1,h2,h3⟩:=h
  have ha:=hne a r o h1
  refine⟨o,by rw[bv ha];exact h1,h2,?_⟩
  rw[newρ_ne ha];exact h3
 |ptr a r i j=>
  obtain⟨o,b,c,h1,h2,h3⟩:=h
  have ha:=hne a r o h1
  refine⟨o,b,c,by rw[bv ha];exact h1,by rw[newρ_ne ha];exact h2,h3⟩
 |junk=>trivial
theorem ro {s:AS} {a:Act} (h1:a.defers=[]) (hsz:a.tmps.size=s.tmps.length) (hinv:gU w0 O X s.H ρ w) (htm:cn X ρ s a w) (e:Ext w w') {d:Nat} {F:List OObj} (hd:s.H d=[]) (f:Nat->Option (Nat×Nat))
  (hnew: ∀r b c,f r=some (b,c)->w.heap.size<=b) (hinj: ∀r r' b c c',f r=some (b,c)->f r'=some (b,c')->r=r')
  (hself: ∀(r:Nat) o,F[r]?=some o->selfO d o) (hob: ∀(r:Nat) o,F[r]?=some o->objRel (newρ ρ d f) (au s.H d F) (Xo X (newρ ρ d f) (au s.H d F)) w' d r o) {t:TV} {v:Value}
  (hv:t.rel (newρ ρ d f) (au s.H d F) (Xo X (newρ ρ d f) (au s.H d F)) w' v):fM w0 O X (AS.put ⟨s.tmps,au s.H d F⟩ (some d) t) (a.put (some d) v) w':=by
 refine fG (ρ:=newρ ρ d f) h1 hsz ?_ ?_ hv
 ·refine⟨hinv.keep.ext e,fun a r o ho=>?_,fun a r a' r' o o' b c c' ho ho' hr hr'=>?_,fun a r o b c ho hr=>?_,fun b hb=>Nat.lt_of_lt_of_le (hinv.bar b hb) e.size,fun a r o ho=>?_⟩
  ·by_cases ha:a=d
   ·subst ha
    simp only[bV]at ho
    exact hob r o ho
   ·simp only[bv ha]at ho
    exact dV (hinv.objs a r o ho) (newρ_ne ha r) (fun b c hb=>e.block b (cK (hinv.objs a r o ho) hb)) (fun _ _ hr=>jA hinv e hd hnew hr)
  ·by_cases ha:a=d
   ·subst ha
    rw[newρ_eq]at hr
    by_cases ha':a'=a
    ·subst ha'
     rw[newρ_eq]at hr'
     exact⟨rfl,hinj _ _ _ _ _ hr hr'⟩
    ·rw[newρ_ne ha']at hr'
     simp only[bv ha']at ho'
     have:=cK (hinv.objs a' r' o' ho') hr'
     have:=hnew _ _ _ hr
     omega
   ·rw[newρ_ne ha]at hr
    simp only[bv ha]at ho
    by_cases ha':a'=d
    ·subst ha'
     rw[newρ_eq]at hr'
     have:=cK (hinv.objs a r o ho) hr
     have:=hnew _ _ _ hr'
     omega
    ·rw[newρ_ne ha']at hr'
     simp only[bv ha']at ho'
     exact hinv.inj a r a' r' o o' b c c' ho ho' hr hr'
  ·by_cases ha:a=d
   ·subst ha
    rw[newρ_eq]at hr
    have:=hnew _ _ _ hr
    have hk:=hinv.keep.size
    exact⟨.inl (by omega),fun hX=>by have:=hinv.bar b hX;omega⟩
   ·rw[newρ_ne ha]at hr
    simp only[bv ha]at ho
    exact hinv.old a r o b c ho hr
  ·by_cases ha:a=d
   ·subst ha
    simp only[bV]at ho
    exact hself r o ho
   ·simp only[bv ha]at ho
    exact hinv.self a r o ho
 ·intro k x hx
  obtain⟨v,g1,g2⟩:=htm k x hx
  exact⟨v,g1,TV.rel_map g2 (fun _ _ hr=>jA hinv e hd hnew hr)⟩
theorem fh {a:Nat} {x:AV} (hp:isPure x=true):eB a x:=by
 cases x<;>first|trivial|cases hp
theorem iP (w:World) (o:Obj):Ext w (w.alloc o):=(Ext.refl w).alloc o
theorem nt {s:AS} {a:Act} (h1:a.defers=[]) (hsz:a.tmps.size=s.tmps.length) (hinv:gU w0 O X s.H ρ w) (htm:cn X ρ s a w) {d:Nat} {e:TypeId} {es c:Nat} {elems:List (List AV)} {cells:Array Value} (hd:s.H d=[])
  (hes:0<es) (hel: ∀x∈elems,x.length=es) (hcs:cells.size=c*es) (hle:elems.length<=c) (hc:c<=9223372036854775807) (hp: ∀x∈elems,∀y∈x,isPure y=true)
  (hcell: ∀(i:Nat) x (j:Nat) y,elems[i]?=some x->x[j]?=some y-> ∃v:Value,cells[i*es+j]?=some v/\v.oneCell'=true/\y.rel ρ s.H (Xo X ρ s.H) w v) {t:TV} {v:Value}
  (ht:(t= .one (.ptr d 0 0 0)/\0<elems.length/\v= .pointer (some ⟨w.heap.size,0,none⟩))\/(t= .one (.sl d 0 0 elems.length)/\v= .slice (some ⟨w.heap.size,0,none⟩) elems.length c)):
  fM w0 O X (AS.put ⟨s.tmps,au s.H d [⟨e,es,elems⟩]⟩ (some d) t) (a.put (some d) v) (w.alloc (.cells cells e)):=by
 have hnew: ∀(r b c':Nat),(if r=0 then some (w.heap.size,c)else none)=some (b,c')->w.heap.size<=b:=fun r b c' h=>by
  split at h
  ·injection h with h;injection h with h h';omega
  ·cases h
 have key: ∀y v,isPure y=true->AV.rel ρ s.H (Xo X ρ s.H) w y v->AV.rel (newρ ρ d fun r=>if r=0 then some (w.heap.size,c)else none) (au s.H d [⟨e,es,elems⟩]) (Xo X (newρ ρ d fun r=>if r=0 then some (w.heap.size,c)else none) (au s.H d [⟨e,es,elems⟩])) (w.alloc (.cells cells e)) y v:=fun y v _ h=>
  jA hinv (iP w _) hd (f:=fun r=>if r=0 then some (w.heap.size,c)else none) hnew h
 refine ro h1 hsz hinv htm (iP w _) hd (fun r=>if r=0 then some (w.heap.size,c)else none) hnew (fun r r' b c c' h h'=>?_) (fun r o ho=>?_) (fun r o ho=>?_) ?_
 ·split at h
  ·split at h'
   ·omega
   ·cases h'
  ·cases h
 ·cases r with
  |succ r=>simp at ho
  |zero=>
   simp at ho
   subst ho
   exact fun x hx y hy=>fh (hp x hx y hy)
 ·cases r with
  |succ r=>simp at ho
  |zero=>
   simp at ho
   subst ho
   refine⟨hel,hes,?_⟩
   rw[newρ_eq]
   refine⟨cells,heap_alloc_new w _,hcs,hle,hc,fun i x j y hx hy=>?_⟩
   obtain⟨u,g1,g2,g3⟩:=hcell i x j y hx hy
   exact⟨u,g1,g2,key y u (hp x (List.mem_of_getElem? hx) y (List.mem_of_getElem? hy)) g3⟩
 ·rcases ht with⟨rfl,hl,rfl⟩|⟨rfl,rfl⟩
  ·exact⟨⟨e,es,elems⟩,w.heap.size,c,by simp[bV],by rw[newρ_eq];rfl,hl,by simp⟩
  ·exact⟨⟨e,es,elems⟩,by simp[bV],by simp,.inr ⟨w.heap.size,c,by rw[newρ_eq];rfl,by simp⟩⟩
end
end
end Go.Proofs.YtpgghglbpcabkaaGreat
