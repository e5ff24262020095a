/-
  Part 3 of a proof (walks and plain facts).
-/
import Derived.Test.YtfgeomlagfomgaaGreatDoorP01
set_option linter.all false
set_option maxRecDepth 100000
set_option maxHeartbeats 64000000
open Option renaming map_some → am
open Go.Result renaming andThen_ok → ar
open Option renaming map_none → ay
namespace Go.Proofs.YtfgeomlagfomgaaGreatDoor
open Go.RowKit
def kh (P:Program) (t:TypeId):Option Nat:=(P.info? t).map (·.size)
def Ds (P:Program) (t:TypeId):Option Nat:=(P.info? t).map (·.bytes)
def jy (P:Program) (t:TypeId):Option (List Value):=((P.info? t).bind (·.zero)).map (·.cells.toList)
def nG (P:Program) (t:TypeId):Option Bool:=(P.underlying t).map fun| .struct _=>true| .array _ _=>true|_=>false
def eQ (P:Program) (t:TypeId):Option TypeId:=(P.underlying t).bind fun| .slice e=>some e|_=>none
def jV (P:Program) (t:TypeId):Option (Nat×TypeId):=(P.underlying t).bind fun| .array n e=>some (n,e)|_=>none
def tz (P:Program) (t:TypeId):Option IntKind:=(P.underlying t).bind fun| .int k=>some k|_=>none
def rp (P:Program) (t:TypeId):Bool:=match P.underlying t with|some .bool=>true|_=>false
def pM (P:Program) (t:TypeId) (f:Nat):Option (Nat×TypeId):=(P.underlying t).bind fun| .struct fs=>(fs[f]?).map fun d=>(d.offset,d.type)|_=>none
abbrev AV.raw (v:Value):AV:= .p (.raw v)
abbrev TV.raw (v:Value):TV:= .one (.p (.raw v))
abbrev TV.undef:TV:= .tup []
def aN:Value->TV
 | .agg cs=>if cs.toList.all (·.oneCell')then .agg (cs.toList.map AV.raw)else .one .junk
 |v=>if v.oneCell' then .raw v else .one .junk
def AS.ev (s:AS):Operand->Option TV
 | .tmp t=>s.tmps[t]?
 | .const v=>some (aN v)
 | .global g=>some (.raw (.pointer (some ⟨g,0,none⟩)))
 | .func f=>some (.raw (.func (.func f) #[] #[]))
def AS.put (s:AS) (d:Option Tmp) (t:TV):AS:=
 match d with
 |some d=>{s with tmps:=s.tmps.set d t}
 |none=>s
def packT (P:Program) (t:TypeId) (cs:List AV):Option TV:=
 match kh P t,nG P t with
 |some n,some true=>if n<=cs.length then some (.agg (cs.take n))else none
 |some _,some false=>match cs with
  |x::_=>some (.one x)
  |[]=>none
 |_,_=>none
def aS (bt:Bool):BinOp->Value->Value->Option Value
 | .add,.int k a,.int k' b=>if k=k' then some (.int k (k.wrap (a+b)))else none
 | .sub,.int k a,.int k' b=>if k=k' then some (.int k (k.wrap (a-b)))else none
 | .mul,.int k a,.int k' b=>if k=k' then some (.int k (k.wrap (a*b)))else none
 | .quo,.int k a,.int k' b=>if k=k'/\b≠0 then some (.int k (k.wrap (a.tdiv b)))else none
 | .rem,.int k a,.int k' b=>if k=k'/\b≠0 then some (.int k (a.tmod b))else none
 | .shl,.int k a,.int _ b=>if 0<=b then some (.int k (k.wrap (a*2^(min b.toNat k.bits))))else none
 | .shr,.int k a,.int _ b=>if 0<=b then some (.int k (a.fdiv (2^(min b.toNat k.bits))))else none
 | .and,.int k a,.int k' b=>if k=k' then some (.int k (k.wrap ((BitVec.ofInt k.bits a&&&BitVec.ofInt k.bits b).toNat:Int)))else none
 | .or,.int k a,.int k' b=>if k=k' then some (.int k (k.wrap ((BitVec.ofInt k.bits a|||BitVec.ofInt k.bits b).toNat:Int)))else none
 | .xor,.int k a,.int k' b=>if k=k' then some (.int k (k.wrap ((BitVec.ofInt k.bits a^^^BitVec.ofInt k.bits b).toNat:Int)))else none
 | .eql,.int k a,.int k' b=>if k=k' then some (.bool (decide (a=b)))else none
 | .neq,.int k a,.int k' b=>if k=k' then some (.bool (!decide (a=b)))else none
 | .lss,.int k a,.int k' b=>if k=k' then some (.bool (decide (a<b)))else none
 | .leq,.int k a,.int k' b=>if k=k' then some (.bool (decide (a<=b)))else none
 | .gtr,.int k a,.int k' b=>if k=k' then some (.bool (decide (b<a)))else none
 | .geq,.int k a,.int k' b=>if k=k' then some (.bool (decide (b<=a)))else none
 | .eql,.bool a,.bool b=>if bt=true then some (.bool (a==b))else none
 | .neq,.bool a,.bool b=>if bt=true then some (.bool (!(a==b)))else none
 |_,_,_=>none
def vi (P:Program) (t:TypeId):Option Nat:=match jV P t with
 |some (n,e)=>if tz P e≠none/\nG P e=some false/\kh P e=some 1/\P.eqGuardType P.depth t=false then some n else none
 |none=>none
def zo:List AV->List AV->Option Bool
 |[],[]=>some true
 | .p (.raw (.int k a))::xs,.p (.raw (.int k' b))::ys=>match zo xs ys with
  |some c=>if k=k' then some (decide (a=b)&&c)else none
  |none=>none
 |_,_=>none
def rM (P:Program) (op:BinOp) (t:TypeId) (xs ys:List AV):Option TV:=match vi P t,zo xs ys,op with
 |some n,some b,.eql=>if xs.length=n then some (.raw (.bool b))else none
 |some n,some b,.neq=>if xs.length=n then some (.raw (.bool !b))else none
 |_,_,_=>none
def fD:UnOp->Value->Option Value
 | .neg,.int k n=>some (.int k (k.wrap (0-n)))
 | .not,.bool b=>some (.bool !b)
 |_,_=>none
def aO:Operand->Bool
 | .const (.slice none _ _)=>true
 |_=>false
def aX:TV->Option Bool
 | .one (.p (.raw (.slice none _ _)))=>some true
 | .one (.p (.sl (_::_)))=>some false
 |_=>none
def aR (P:Program) (op:BinOp) (t:TypeId) (x y:Option TV):Option TV:=match eQ P t,x.bind aX,y.bind aX,op with
 |some _,some b,some true,.eql=>some (.raw (.bool b))
 |some _,some b,some true,.neq=>some (.raw (.bool !b))
 |_,_,_,_=>none
def aU (P:Program) (ev:Operand->Option TV):Op->Option TV
 | .move x=>ev x
 | .assign x=>ev x
 | .pick c a b=>match ev c with
  |some (.one (.p (.raw (.bool true))))=>ev a
  |some (.one (.p (.raw (.bool false))))=>ev b
  |_=>none
 | .binOp op t x y _=>if aO y=true then aR P op t (ev x) (ev y)else match ev x,ev y with
  |some (.one (.p (.raw a))),some (.one (.p (.raw b)))=>(aS (rp P t) op a b).map TV.raw
  |some (.agg xs),some (.agg ys)=>rM P op t xs ys
  |_,_=>none
 | .unOp op _ x=>match ev x with
  |some (.one (.p (.raw a)))=>(fD op a).map TV.raw
  |_=>none
 | .convert src dst x=>match ev x,P.underlying src,tz P dst with
  |some (.one (.p (.raw (.int _ n)))),some _,some k=>some (.raw (.int k (k.wrap n)))
  |_,_,_=>none
 | .extract t i=>match ev t with
  |some (.tup ts)=>match ts[i]? with
   |some (true,cs)=>some (.agg cs)
   |some (false,[x])=>some (.one x)
   |_=>none
  |_=>none
 |_=>none
def vJ:Op->Bool
 | .move _| .assign _| .pick ..| .binOp ..| .unOp ..| .convert ..| .extract ..=>true
 |_=>false
def uv (z:Int):Option Nat:=if 0<=z then some z.toNat else none
def eK (ev:Operand->Option TV):Option Operand->Nat->Option Nat
 |none,d=>some d
 |some x,_=>match ev x with
  |some (.one (.p (.raw (.int _ n))))=>uv n
  |_=>none
def cellsOf:TV->Option (List AV)
 | .one (.p x)=>some [.p x]
 | .agg cs=>some cs
 |_=>none
def qP (P:Program) (t:TypeId):Option (List (Nat×Nat)):=(P.underlying t).bind fun| .struct fs=>fs.toList.mapM (fun f=>(P.info? f.type).map fun i=>(f.offset,i.size))| .array _ e=>(P.info? e).map fun _=>[]|_=>none
def iC (pl:List (Nat×Nat)) (ev:Operand->Option TV):List AV->List (Nat×Operand)->Option (List AV)
 |cs,[]=>some cs
 |cs,(f,x)::rest=>match pl[f]?,(ev x).bind cellsOf with
  |some (off,n),some ys=>if ys.length=n/\off+n<=cs.length then iC pl ev (cs.take off++ys++cs.drop (off+n)) rest else none
  |_,_=>none
def bO (ev:Operand->Option TV):List Operand->Option (List TV)
 |[]=>some []
 |x::l=>match ev x,bO ev l with
  |some t,some ts=>some (t::ts)
  |_,_=>none
def km:List TV->Option (List AV)
 |[]=>some []
 | .one .junk::_=>none
 | .one x::l=>match km l with
  |some cs=>some (x::cs)
  |none=>none
 |_::_=>none
def rr:Option TV->Option (FuncId×List TV)
 |some (.fn f cs)=>some (f,cs.map TV.one)
 |some (.one (.p (.raw (.func (.func f) first caps))))=>if first.isEmpty&&caps.isEmpty then some (f,[])else none
 |_=>none
def aZ (P:Program) (ev:Operand->Option TV) (H:OH):Op->Option TV
 | .load t a=>match ev a with
  |some (.one (.p (.ptr cs)))=>packT P t (cs.map AV.p)
  |some (.one (.ptr a r i j))=>match(H a)[r]? with
   |some o=>match o.elems[i]? with
    |some e=>packT P t (e.drop j)
    |none=>none
   |none=>none
  |_=>none
 | .indexAddr t x ix=>match ev ix with
  |some (.one (.p (.raw (.int _ n))))=>match uv n with
   |none=>none
   |some i=>match eQ P t,ev x with
    |some e,some (.one (.p (.sl xs)))=>match xs[i]? with
     |some c=>if kh P e=some c.length then some (.one (.p (.ptr c)))else none
     |none=>none
    |some e,some (.one (.sl a r off len))=>match(H a)[r]? with
     |some o=>if kh P e=some o.es/\i<len then some (.one (.ptr a r (off+i) 0))else none
     |none=>none
    |none,some (.one (.p (.ptr cs)))=>match jV P t with
     |some (n,e)=>match kh P e with
      |some sz=>if i<n then some (.one (.p (.ptr (cs.drop (i*sz)))))else none
      |none=>none
     |none=>none
    |none,some (.one (.ptr a r k j))=>match jV P t with
     |some (n,e)=>match kh P e with
      |some sz=>if i<n then some (.one (.ptr a r k (j+i*sz)))else none
      |none=>none
     |none=>none
    |none,some (.one (.p (.raw (.pointer (some ⟨b,off,none⟩)))))=>match jV P t with
     |some (n,e)=>match kh P e with
      |some sz=>if i<n then some (.one (.p (.raw (.pointer (some ⟨b,off+i*sz,none⟩)))))else none
      |none=>none
     |none=>none
    |_,_=>none
  |_=>none
 | .fieldAddr t x f=>match pM P t f,ev x with
  |some (off,ft),some (.one (.p (.ptr cs)))=>match kh P ft with
   |some (_+1)=>some (.one (.p (.ptr (cs.drop off))))
   |_=>none
  |some (off,ft),some (.one (.ptr a r i j))=>match kh P ft with
   |some (_+1)=>some (.one (.ptr a r i (j+off)))
   |_=>none
  |_,_=>none
 | .field t x f=>match pM P t f,ev x with
  |some (off,ft),some (.agg cs)=>packT P ft (cs.drop off)
  |_,_=>none
 | .index t x ix=>match ev ix with
  |some (.one (.p (.raw (.int _ n))))=>match uv n with
   |none=>none
   |some i=>match jV P t,ev x with
    |some (m,e),some (.agg cs)=>match kh P e with
     |some sz=>if i<m then packT P e (cs.drop (i*sz))else none
     |none=>none
    |_,_=>none
  |_=>none
 | .slice t x (some lo) (some hi) (some mx)=>match eQ P t,ev x with
  |some e,some (.one (.sl a r off len))=>match eK ev (some lo) 0,eK ev (some hi) 0,eK ev (some mx) 0,(H a)[r]? with
   |some l,some h,some m,some o=>if kh P e=some o.es/\l<h/\h<=m/\m<=len/\5000<=a then some (.one (.sl a r (off+l) (h-l)))else none
   |_,_,_,_=>none
  |_,_=>none
 | .slice t x lo hi none=>match eQ P t,ev x with
  |some e,some (.one (.p (.sl xs)))=>match eK ev lo 0,eK ev hi xs.length,kh P e with
   |some l,some h,some n=>if l<=h/\h<=xs.length/\ ∀c∈xs,c.length=n then some (.one (.p (.sl ((xs.take h).drop l))))else none
   |_,_,_=>none
  |some e,some (.one (.sl a r off len))=>match eK ev lo 0,eK ev hi len,(H a)[r]? with
   |some l,some h,some o=>if kh P e=some o.es/\l<h/\h<=len then some (.one (.sl a r (off+l) (h-l)))else if kh P e=some o.es/\l=h/\h<=len then some (.one (.p (.sl [])))else none
   |_,_,_=>none
  |_,_=>none
 | .build t parts=>match jy P t,qP P t with
  |some z,some pl=>if z.all (·.oneCell')then(iC pl ev (z.map AV.raw) parts.toList).map TV.agg else none
  |_,_=>none
 | .nilCheck x=>match ev x with
  |some (.one (.p (.ptr cs)))=>some (.one (.p (.ptr cs)))
  |some (.one (.ptr a r i j))=>some (.one (.ptr a r i j))
  |_=>none
 | .makeFunc (.func f) first captured=>if first.isEmpty then((bO ev captured.toList).bind km).map (TV.fn f)else none
 | .call {callee:= .builtin .len,args,argTypes}=>match args.toList,argTypes.toList with
  |[x],[t]=>match eQ P t,ev x with
   |some _,some (.one (.p (.sl xs)))=>some (.raw (.int .i64 xs.length))
   |some _,some (.one (.sl _ _ _ len))=>some (.raw (.int .i64 len))
   |some _,some (.one (.p (.raw (.slice _ n _))))=>some (.raw (.int .i64 n))
   |_,_=>none
  |_,_=>none
 |_=>none
def Hu:Op->Bool
 | .load ..| .indexAddr ..| .fieldAddr ..| .field ..| .index ..| .slice ..| .build ..| .nilCheck ..| .makeFunc ..| .call {callee:= .builtin .len,..}=>true
 |_=>false
def isPure:AV->Bool
 | .p _=>true
 |_=>false
def lI:AV->PV
 | .p x=>x
 |_=> .raw undef
def bM (d:Nat):AV->AV
 | .sl _ r off len=> .sl d r off len
 | .ptr _ r i j=> .ptr d r i j
 |x=>x
def bQ (d:Nat):TV->TV
 | .one x=> .one (bM d x)
 | .agg cs=> .agg (cs.map (bM d))
 | .tup ts=> .tup (ts.map fun t=>(t.1,t.2.map (bM d)))
 | .fn f cs=> .fn f (cs.map (bM d))
def renO (d:Nat) (o:OObj):OObj:={o with elems:=o.elems.map (List.map (bM d))}
def famH (d:Nat) (F:List OObj):OH:=fun a=>if a=d then F else[]
def bD (H:OH) (d:Nat) (F:List OObj):OH:=fun a=>if a=d then F else H a
def bx (k:Nat->Nat->Bool):AV->AV
 | .sl a r off len=>if k a r then .junk else .sl a r off len
 | .ptr a r i j=>if k a r then .junk else .ptr a r i j
 |x=>x
def bz (k:Nat->Nat->Bool):TV->TV
 | .one x=> .one (bx k x)
 | .agg cs=> .agg (cs.map (bx k))
 | .tup ts=> .tup (ts.map fun t=>(t.1,t.2.map (bx k)))
 | .fn f cs=> .fn f (cs.map (bx k))
def fq (k:Nat->Nat->Bool) (o:OObj):OObj:={o with elems:=o.elems.map (List.map (bx k))}
structure CallRes where
 fam:List OObj
 r:TV
def callable (P:Program) (f:FuncId):Bool:=match P.funcs[f]? with
 | some fn => fn.body.isSome && !(fn.name == "runtime.NumGoroutine")
 |none=>false
def CallC (P:Program) (f:FuncId) (args:List TV) (res:CallRes):Prop:=
 callable P f=true/\ ∀(X:Nat->Prop) (w:World) (vs:Array Value),(∀b,X b->b<w.heap.size)->vs.size=args.length->
  (∀(j:Nat) t,args[j]?=some t-> ∃v:Value,vs[j]?=some v/\t.rel (fun _ _=>none) (fun _=>[]) X w v)->
  Calls P f vs w fun e w'=> ∃v,e= .returned v/\ ∃ρ:Rho,
   Inv w (fun _=>False) X (famH 0 res.fam) ρ w'/\res.r.rel ρ (famH 0 res.fam) (Xo X ρ (famH 0 res.fam)) w' v
def bW:AV->Bool
 | .p (.raw _)=>true
 |_=>false
def bV:TV->Bool
 | .one x=>bW x
 | .agg cs=>cs.all bW
 | .tup ts=>ts.all fun t=>t.2.all bW
 | .fn _ cs=>cs.all bW
def CallRes.plain (res:CallRes):Bool:=res.fam.isEmpty&&bV res.r
def bf:AV->Bool
 | .sl ..=>false
 | .ptr ..=>false
 |_=>true
def noRefTV:TV->Bool
 | .one x=>bf x
 | .agg cs=>cs.all bf
 | .tup ts=>ts.all fun t=>t.2.all bf
 | .fn _ cs=>cs.all bf
structure fh (P:Program) where
 i:Nat
 f:FuncId
 args:List TV
 res:CallRes
structure bj (P:Program) where
 i:Nat
 f:FuncId
 args:List TV
 res:CallRes
 h:CallC P f args res
def bj.a {P:Program} (it:bj P):fh P:=⟨it.i,it.f,it.args,it.res⟩
def iL (P:Program) (items:List (fh P)):Prop:= ∀it∈items,CallC P it.f it.args it.res
theorem bj.ok {P:Program} (items:List (bj P)):iL P (items.map bj.a):=fun it hit=>by
 obtain⟨x,_,rfl⟩:=List.mem_map.1 hit
 exact x.h
def cq (H:OH):TV->TV
 | .one (.sl a r off len)=>match(H a)[r]? with
  |some o=> .one (.p (.sl ((((o.elems.take (off+len)).drop off)).map (List.map lI))))
  |none=> .one .junk
 | .one (.p (.raw (.slice none 0 0)))=> .one (.p (.sl []))
 |t=>t
def bs (own:Bool) (H:OH):TV->Bool
 | .one (.sl a r _ _)=>own&&match(H a)[r]? with
  |some o=>o.elems.all fun e=>e.all isPure
  |none=>false
 | .one (.p _)=>true
 | .agg cs=>cs.all isPure
 | .fn _ cs=>cs.all isPure
 |_=>false
def eo (H:OH):TV->Option (List (List AV))
 | .one (.p (.sl xs))=>some (xs.map (List.map AV.p))
 | .one (.p (.raw (.slice none 0 0)))=>some []
 | .one (.sl a r off len)=>match(H a)[r]? with
  |some o=>if o.elems.all fun e=>e.all isPure then some ((o.elems.take (off+len)).drop off)else none
  |none=>none
 |_=>none
def gU (ev:Operand->Option TV) (n:Nat):Nat->List (Nat×Operand)->Option (List (List AV))
 |_,[]=>some []
 |i,(k,x)::rest=>match(ev x).bind cellsOf,gU ev n (i+1) rest with
  |some cs,some l=>if k=i/\cs.length=n/\cs.all isPure then some (cs::l)else none
  |_,_=>none
open Classical in
noncomputable def bI (P:Program) (items:List (fh P)) (ow:List Nat) (i d:Nat) (ev:Operand->Option TV) (H:OH):Op->Option (TV×List OObj)
 | .box e x=>match(ev x).bind cellsOf with
  |some cs=>if cs.all isPure/\0<cs.length then some (.one (.ptr d 0 0 0),[⟨e,cs.length,[cs]⟩])else none
  |none=>none
 | .alloc e=>match jy P e with
  |some z=>if z.all (·.oneCell')/\0<z.length then some (.one (.ptr d 0 0 0),[⟨e,z.length,[z.map AV.raw]⟩])else none
  |none=>none
 | .makeSlice t l c=>match ev l,ev c,eQ P t with
  |some (.one (.p (.raw (.int _ n)))),some (.one (.p (.raw (.int _ m)))),some e=>match jy P e,kh P e,Ds P e with
   |some z,some sz,some by_=>if 0<=n/\n<=m/\m<=9223372036854775807/\(by_:Int)*m<=281474976710656/\z.length=sz/\0<sz/\z.all (·.oneCell')then
     some (.one (.sl d 0 0 n.toNat),[⟨e,sz,List.replicate n.toNat (z.map AV.raw)⟩])else none
   |_,_,_=>none
  |_,_,_=>none
 | .buildSlice t n parts=>match eQ P t with
  |some e=>match jy P e,kh P e with
   |some z,some sz=>match gU ev sz 0 parts.toList with
    |some l=>if l.length=n/\n*sz<=16777216/\z.length=sz/\0<sz then
      if ow.contains d then some (.one (.sl d 0 0 n),[⟨e,sz,l⟩])else some (.one (.p (.sl (l.map (List.map lI)))),[])else none
    |none=>none
   |_,_=>none
  |none=>none
 | .call c=>match c.callee with
  | .value (.func f)=>match items.find? (·.i==i),bO ev c.args.toList with
   |some it,some ts=>if it.f=f/\ts.map (cq H)=it.args/\ts.all (bs it.res.plain H)/\(!it.res.fam.isEmpty||noRefTV it.res.r)then some (bQ d it.res.r,it.res.fam.map (renO d))else none
   |_,_=>none
  | .value (.tmp k)=>match rr (ev (.tmp k)),items.find? (·.i==i),bO ev c.args.toList with
   |some (f,extra),some it,some ts=>if it.f=f/\(ts++extra).map (cq H)=it.args/\(ts++extra).all (bs it.res.plain H)/\(!it.res.fam.isEmpty||noRefTV it.res.r)then some (bQ d it.res.r,it.res.fam.map (renO d))else none
   |_,_,_=>none
  | .builtin .append=>match c.args.toList,c.argTypes.toList with
   |[s,x],[t,t']=>match ev s,(ev x).bind (eo H),eQ P t with
    |some (.one (.p (.raw (.slice none 0 0)))),some news,some e=>match jy P e,kh P e,Ds P e with
     |some z,some sz,some by_=>if t=t'/\news.length*by_<=140737488355328/\news.length<=9223372036854775807/\z.length=sz/\0<sz/\(∀e∈news,e.length=sz)then
       some (.one (.sl d 0 0 news.length),[⟨e,sz,news⟩])else none
     |_,_,_=>none
    |_,_,_=>none
   |_,_=>none
  |_=>none
 |_=>none
def bu (e:List AV) (j:Nat) (cs:List AV):List AV:=e.take j++cs++e.drop (j+cs.length)
structure yH where
 t:TV
 H:OH
 k:Nat->Nat->Bool
def cU (P:Program) (ev:Operand->Option TV) (H:OH):Op->Option yH
 | .store t a x=>match ev a,kh P t with
  |some (.one (.ptr a r i j)),some n=>match(H a)[r]? with
   |some o=>match o.elems[i]? with
    |some e=>match ev x with
     |some (.one (.sl a' r' off len))=>
      if a'=a then
       if n=1/\j<e.length then some ⟨.undef,bD H a ((H a).set r {o with elems:=o.elems.set i (bu e j [.sl a' r' off len])}),fun _ _=>false⟩else none
      else match H a' with
       |[ob]=>if a'<=4999/\r'=0/\off=0/\len=ob.elems.length/\n=1/\j<e.length/\ob.elems.all (fun e=>e.all isPure)then
         some ⟨.undef,bD (bD H a ((H a).set r {o with elems:=o.elems.set i (bu e j [.sl a (H a).length 0 len])}++[ob])) a' [],fun x _=>x==a'⟩else none
       |_=>none
     |some v=>match cellsOf v with
      |some cs=>if cs.length=n/\j+n<=e.length/\cs.all isPure then
        some ⟨.undef,bD H a ((H a).set r {o with elems:=o.elems.set i (bu e j cs)}),fun _ _=>false⟩else none
      |none=>none
     |none=>none
    |none=>none
   |none=>none
  |_,_=>none
 | .call c=>match c.callee,c.args.toList,c.argTypes.toList with
  | .builtin .append,[s,x],[t,t']=>match ev s,(ev x).bind (eo H),eQ P t with
   |some (.one (.sl a r off len)),some news,some e=>match(H a)[r]?,jy P e,kh P e,Ds P e with
    |some o,some z,some sz,some by_=>if a<=4999/\t=t'/\o.ty=e/\o.es=sz/\o.elems.all (fun e=>e.all isPure)/\off=0/\len=o.elems.length/\(len+news.length)*by_<=140737488355328/\len+news.length<=9223372036854775807/\z.length=sz/\(∀e∈news,e.length=sz)then
      some ⟨.one (.sl a r 0 (len+news.length)),bD H a (((H a).map (fq fun x y=>x==a&&y==r)).set r {o with elems:=o.elems++news}),fun x y=>x==a&&y==r⟩else none
    |_,_,_,_=>none
   |_,_,_=>none
  |_,_,_=>none
 |_=>none
noncomputable def gH (P:Program) (items:List (fh P)) (ow:List Nat) (i:Nat) (o:Oper) (s:AS):Option AS:=
 if vJ o.op then(aU P s.ev o.op).map (s.put o.dst)
 else if Hu o.op then(aZ P s.ev s.H o.op).map (s.put o.dst)
 else match cU P s.ev s.H o.op with
  |some q=>some (AS.put ⟨s.tmps.map (bz q.k),q.H⟩ o.dst q.t)
  |none=>match o.dst with
   |none=>none
   |some d=>match bI P items ow i d s.ev s.H o.op with
    |some (t,[])=>some (s.put (some d) t)
    |some (t,F)=>match s.H d with
     |[]=>some (AS.put ⟨s.tmps,bD s.H d F⟩ (some d) t)
     |_=>none
    |none=>none
noncomputable def dR (P:Program) (items:List (fh P)) (ow:List Nat) (ops:Array Oper) (i:Nat) (o:Oper) (s:AS):Option AS:=
 match o.guard with
 |none=>gH P items ow i o s
 |some (g,want)=>match(ops[g]?).bind (·.dst)with
  |none=>none
  |some d=>match s.tmps[d]? with
   |some (.one (.p (.raw (.bool b))))=>if b=want then gH P items ow i o s else some (s.put o.dst .undef)
   |some (.tup [])=>some (s.put o.dst .undef)
   |_=>none
noncomputable def jG (P:Program) (items:List (fh P)) (ow:List Nat) (ops:Array Oper):List (Oper×Nat)->AS->Option AS
 |[],s=>some s
 |(o,i)::rest,s=>match dR P items ow ops i o s with
  |some s'=>jG P items ow ops rest s'
  |none=>none
section
section
variable {P:Program} {ρ:Rho} {H:OH} {X:Nat->Prop} {w:World}
def iZ (ρ:Rho) (H:OH) (X:Nat->Prop) (w:World) (ev:Operand->Option TV) (e:Operand->Value):Prop:= ∀x t,ev x=some t->TV.rel ρ H X w t (e x)
theorem dQ {a v:Value} (h:TV.rel ρ H X w (.raw a) v):v=a/\a.oneCell'=true:=by
 cases h with
 |raw v h=>exact⟨rfl,h⟩
theorem fA {a:Value} (h:a.oneCell'=true):TV.rel ρ H X w (.raw a) a:=ee.raw a h
theorem xR (v:Value):TV.rel ρ H X w (aN v) v:=by
 unfold aN
 split
 ·rename_i cs
  split
  ·rename_i h
   simp only[List.all_eq_true]at h
   refine⟨cs,rfl,by simp,fun j x hx=>?_⟩
   rw[List.getElem?_map]at hx
   cases hj:cs.toList[j]? with
   |none=>rw[hj]at hx;cases hx
   |some u=>
    rw[hj]at hx
    simp at hx
    subst hx
    have h1:u.oneCell'=true:=h u (List.mem_of_getElem? hj)
    exact⟨u,by simpa using hj,h1,ee.raw u h1⟩
  exact trivial
 split
 ·exact ee.raw _ (by assumption)
 exact trivial
theorem xj {op:BinOp} {a b v:Value} {t:TypeId} (h:aS (rp P t) op a b=some v) (x y:Operand):
  (do eqGuard op t x y a b;binOp op t a b:Sem Value).run P w= .ok v w/\v.oneCell'=true:=by
 unfold aS at h
 split at h
 case h_1|h_2|h_3|h_8|h_9|h_10|h_11|h_12|h_13|h_14|h_15|h_16=>
  split at h
  ·rename_i hk
   subst hk
   injection h with h
   subst h
   refine⟨?_,rfl⟩
   show(if _≠_ then _ else _:Sem Value).run P w=_
   rw[if_neg (fun h=>h rfl)]
   rfl
  cases h
 case h_4|h_5=>
  split at h
  ·rename_i hk
   obtain⟨hk,hb⟩:=hk
   subst hk
   injection h with h
   subst h
   refine⟨?_,rfl⟩
   show(if _≠_ then _ else(if _=_ then _ else _):Sem Value).run P w=_
   rw[if_neg (fun h=>h rfl),if_neg hb]
   rfl
  cases h
 case h_6|h_7=>
  split at h
  ·rename_i hb
   injection h with h
   subst h
   refine⟨?_,rfl⟩
   show(if _<_ then _ else _:Sem Value).run P w=_
   rw[if_neg (by omega)]
   rfl
  cases h
 case h_17|h_18=>
  split at h
  ·rename_i hb
   injection h with h
   subst h
   have ht:P.underlying t=some .bool:=by
    unfold rp at hb
    split at hb
    ·assumption
    cases hb
   refine⟨?_,rfl⟩
   first
    |exact run_eql_bool w t _ _ ht
    |exact run_neq_bool w t _ _ ht
  cases h
 case h_19=>cases h
theorem zp {op:UnOp} {a v:Value} (h:fD op a=some v):(Op.unary op a).run P w= .ok v w/\v.oneCell'=true:=by
 unfold fD at h
 split at h
 ·injection h with h;subst h;exact⟨rfl,rfl⟩
 ·injection h with h;subst h;exact⟨rfl,rfl⟩
 cases h
theorem fG {s:Sem Value} {v:Value} {w':World} (h:s.run P w= .ok v w'):(do pure (Next.value (<- s)):Sem Next).run P w= .ok (.value v) w':=by
 rw[Sem.run_bind,h];rfl
theorem Li {s:Sem Unit} {w':World} (h:s.run P w= .ok () w'):(do s;pure Next.skip:Sem Next).run P w= .ok .skip w':=by
 rw[Sem.run_bind,h];rfl
theorem jl {t e:TypeId} {n:Nat} (h:jV P t=some (n,e)):P.underlying t=some (.array n e):=by
 unfold jV at h
 cases hu:P.underlying t with
 |none=>rw[hu]at h;cases h
 |some d=>rw[hu]at h;cases d<;>simp at h;rw[h.1,h.2]
theorem mo {d k0:Nat} {e:TypeId} {kk:IntKind} (hu:P.underlying e=some (.int kk)) (hag:(isAgg e).run P w= .ok false w) {vs us:Array Value}: ∀(xs ys:List AV) (m:Nat) (b:Bool),zo xs ys=some b->
  (∀(j:Nat) x,xs[j]?=some x-> ∃u:Value,vs[m+j]?=some u/\x.rel ρ H X w u)->(∀(j:Nat) x,ys[j]?=some x-> ∃u:Value,us[m+j]?=some u/\x.rel ρ H X w u)->
  (Op.eqItems (d+1) e 1 vs us (List.range' m xs.length)).run P w= .ok b w
 |[],[],m,b,h,_,_=>by
  simp only[zo]at h
  injection h with h
  subst h
  simp[Op.eqItems]
 | .p (.raw (.int k a))::xs,.p (.raw (.int k' b'))::ys,m,b,h,h1,h2=>by
  simp only[zo]at h
  split at h
  ·rename_i c hc
   split at h
   ·rename_i hk
    subst hk
    injection h with h
    subst h
    obtain⟨u,u1,u2⟩:=h1 0 _ rfl
    obtain⟨u',u3,u4⟩:=h2 0 _ rfl
    have e1:=(dQ (H:=H) (ρ:=ρ) (X:=X) (w:=w) (v:=u) u2).1
    have e2:=(dQ (H:=H) (ρ:=ρ) (X:=X) (w:=w) (v:=u') u4).1
    subst e1 e2
    have ih:=mo (d:=d) (k0:=k0) hu hag (vs:=vs) (us:=us) xs ys (m+1) c hc (fun j x hx=>by
     have:=h1 (j+1) x (by simpa using hx)
     rwa[show m+1+j=m+(j+1) by omega]) (fun j x hx=>by
     have:=h2 (j+1) x (by simpa using hx)
     rwa[show m+1+j=m+(j+1) by omega])
    simp only[List.length_cons,List.range'_succ,Op.eqItems,Sem.run_bind]
    have p1:(part e vs (m*1)).run P w= .ok (.int k a) w:=by
     unfold part
     rw[Sem.run_bind,hag,ar,if_neg (by simp),Nat.mul_one,show vs[m]?=_ from u1];rfl
    have p2:(part e us (m*1)).run P w= .ok (.int k b') w:=by
     unfold part
     rw[Sem.run_bind,hag,ar,if_neg (by simp),Nat.mul_one,show us[m]?=_ from u3];rfl
    rw[p1,ar,p2,ar]
    have p3:(Op.equalIn (d+1) e (.int k a) (.int k b')).run P w= .ok (a==b') w:=by
     simp[Op.equalIn,Sem.run_bind,run_underlying hu]
    rw[p3,ar]
    by_cases hab:a=b'
    ·subst hab
     simp[ih]
    simp[hab]
   cases h
  cases h
 |[],_::_,_,_,h,_,_=>by simp[zo]at h
 | .p (.raw (.int _ _))::_,[],_,_,h,_,_=>by simp[zo]at h
theorem xg {op:BinOp} {t:TypeId} {xs ys:List AV} {T:TV} (h:rM P op t xs ys=some T) {vs us:Value} (hv:dL ρ H X w xs vs) (hu:dL ρ H X w ys us) (x y:Operand):
  ∃v,(do eqGuard op t x y vs us;binOp op t vs us:Sem Value).run P w= .ok v w/\T.rel ρ H X w v:=by
 obtain⟨vs,rfl,v1,v2⟩:=hv
 obtain⟨us,rfl,u1,u2⟩:=hu
 have key: ∀n b,vi P t=some n->zo xs ys=some b->xs.length=n->(Op.equalIn 10000 t (.agg vs) (.agg us)).run P w= .ok b w/\P.eqGuardType P.depth t=false:=fun n b hn hb hl=>by
  unfold vi at hn
  split at hn
  ·rename_i m e ha
   split at hn
   ·rename_i hc
    obtain⟨c1,c2,c3,c4⟩:=hc
    injection hn with hn
    subst hn
    refine⟨?_,c4⟩
    obtain⟨kk,hk⟩: ∃kk,P.underlying e=some (.int kk):=by
     unfold tz at c1
     cases hu:P.underlying e with
     |none=>rw[hu]at c1;exact absurd rfl c1
     |some d=>rw[hu]at c1;cases d<;>first|exact⟨_,rfl⟩|exact absurd rfl c1
    obtain⟨i,hi,hsz⟩: ∃i,P.info? e=some i/\i.size=1:=by
     unfold kh at c3
     cases hi:P.info? e with
     |none=>rw[hi]at c3;cases c3
     |some i=>rw[hi]at c3;simp at c3;exact⟨i,rfl,c3⟩
    have hag:(isAgg e).run P w= .ok false w:=by
     unfold isAgg
     rw[Sem.run_bind,run_underlying hk,ar];rfl
    rw[show(10000:Nat)=9999+1 from rfl,run_equalIn_array w 9999 vs us (jl ha) hi]
    have hcs:P.cellsOf e=1:=by simp[Program.cellsOf,hi,hsz]
    rw[hcs,List.range_eq_range',<- hl]
    exact mo (d:=9998) (k0:=0) hk hag xs ys 0 b hb (fun j x hx=>by obtain⟨u,h1,_,h2⟩:=v2 j x hx;exact⟨u,by simpa using h1,h2⟩) (fun j x hx=>by obtain⟨u,h1,_,h2⟩:=u2 j x hx;exact⟨u,by simpa using h1,h2⟩)
   cases hn
  cases hn
 have guard: ∀op',P.eqGuardType P.depth t=false->(eqGuard op' t x y (.agg vs) (.agg us)).run P w= .ok () w:=fun op' hg=>by
  cases op'<;>first|rfl|simp[eqGuard,hg]
 unfold rM at h
 split at h
 ·rename_i n b hn hb
  split at h
  ·rename_i hl
   injection h with h
   subst h
   obtain⟨k1,k2⟩:=key n b hn hb hl
   refine⟨.bool b,?_,fA rfl⟩
   rw[Sem.run_bind,guard _ k2,ar,run_eql_struct,k1];rfl
  cases h
 ·rename_i n b hn hb
  split at h
  ·rename_i hl
   injection h with h
   subst h
   obtain⟨k1,k2⟩:=key n b hn hb hl
   refine⟨.bool !b,?_,fA rfl⟩
   rw[Sem.run_bind,guard _ k2,ar]
   show((do let r<- Op.equal t (.agg vs) (.agg us);pure (.bool !r):Sem Value)).run P w=_
   rw[Sem.run_bind]
   have:(Op.equal t (.agg vs) (.agg us)).run P w= .ok b w:=k1
   rw[this];rfl
  cases h
 cases h
theorem sf {t:TV} {b:Bool} {v:Value} (h:aX t=some b) (hr:t.rel ρ H X w v): ∃a n c,v= .slice a n c/\(b=true↔a=none):=by
 unfold aX at h
 split at h
 ·injection h with h
  subst h
  have:=(dQ hr).1
  exact⟨none,_,_,this,by simp⟩
 ·injection h with h
  subst h
  have hr:ee X w _ v:=hr
  cases hr with
  |sl=>exact⟨_,_,_,rfl,by simp⟩
 cases h
theorem xP {op:BinOp} {t:TypeId} {tx ty:Option TV} {T:TV} (h:aR P op t tx ty=some T) {v u:Value} (hv: ∀x,tx=some x->x.rel ρ H X w v) (hu: ∀x,ty=some x->x.rel ρ H X w u) (x y:Operand):
  ∃r,(do eqGuard op t x y v u;binOp op t v u:Sem Value).run P w= .ok r w/\T.rel ρ H X w r:=by
 have key: ∀e b,eQ P t=some e->tx.bind aX=some b->ty.bind aX=some true-> ∃a n c m k,v= .slice a n c/\u= .slice none m k/\(Op.equal t v u).run P w= .ok b w:=fun e b he hb hy=>by
  obtain⟨x1,hx1,hx2⟩:=Option.bind_eq_some_iff.1 hb
  obtain⟨y1,hy1,hy2⟩:=Option.bind_eq_some_iff.1 hy
  obtain⟨a,n,c,rfl,ha⟩:=sf hx2 (hv _ hx1)
  obtain⟨a',m,k,rfl,ha'⟩:=sf hy2 (hu _ hy1)
  have ha':=ha'.1 rfl
  subst ha'
  refine⟨a,n,c,m,k,rfl,rfl,?_⟩
  have hun:P.underlying t=some (.slice e):=by
   unfold eQ at he
   cases hu:P.underlying t with
   |none=>rw[hu]at he;cases he
   |some d=>rw[hu]at he;cases d<;>simp at he;rw[he]
  suffices hd: ∀d,(Op.equalIn (d+1) t (.slice a n c) (.slice none m k)).run P w= .ok b w from hd 9999
  intro d
  cases a with
  |none=>
   rw[ha.2 rfl]
   simp[Op.equalIn,Sem.run_bind,run_underlying hun]
  |some a=>
   have:b=false:=by
    cases b with
    |false=>rfl
    |true=>exact absurd (ha.1 rfl) (by simp)
   subst this
   simp[Op.equalIn,Sem.run_bind,run_underlying hun]
 unfold aR at h
 split at h
 ·rename_i e b he hb hy
  injection h with h
  subst h
  obtain⟨a,n,c,m,k,rfl,rfl,hq⟩:=key _ _ he hb hy
  refine⟨.bool b,?_,fA rfl⟩
  rw[Sem.run_bind,show(eqGuard .eql t x y (.slice a n c) (.slice none m k)).run P w= .ok () w from rfl,ar]
  show((do let r<- Op.equal t (.slice a n c) (.slice none m k);pure (.bool r):Sem Value)).run P w=_
  rw[Sem.run_bind,hq];rfl
 ·rename_i e b he hb hy
  injection h with h
  subst h
  obtain⟨a,n,c,m,k,rfl,rfl,hq⟩:=key _ _ he hb hy
  refine⟨.bool !b,?_,fA rfl⟩
  rw[Sem.run_bind,show(eqGuard .neq t x y (.slice a n c) (.slice none m k)).run P w= .ok () w from rfl,ar]
  show((do let r<- Op.equal t (.slice a n c) (.slice none m k);pure (.bool !r):Sem Value)).run P w=_
  rw[Sem.run_bind,hq];rfl
 cases h
theorem zh {ev:Operand->Option TV} {e:Operand->Value} (hev:iZ ρ H X w ev e) {o:Oper} {t:TV} (h:aU P ev o.op=some t):
  ∃v,(execOp e o).run P w= .ok (.value v) w/\t.rel ρ H X w v:=by
 unfold execOp
 cases ho:o.op<;>rw[ho]at h<;>simp only[aU]at h<;>try cases h
 case move x=>exact⟨_,rfl,hev x t h⟩
 case assign x=>exact⟨_,rfl,hev x t h⟩
 case pick c a b=>
  split at h
  ·rename_i hc
   have:=(dQ (hev c _ hc)).1
   refine⟨e a,?_,hev a t h⟩
   simp only[this];rfl
  ·rename_i hc
   have:=(dQ (hev c _ hc)).1
   refine⟨e b,?_,hev b t h⟩
   simp only[this];rfl
  cases h
 case binOp op ty x y yt=>
  split at h
  ·obtain⟨v,h3,h4⟩:=xP h (fun t ht=>hev x t ht) (fun t ht=>hev y t ht) x y
   exact⟨v,fG h3,h4⟩
  split at h
  ·rename_i a b ha hb
   have h1:=(dQ (hev x _ ha)).1
   have h2:=(dQ (hev y _ hb)).1
   cases hv:aS (rp P ty) op a b with
   |none=>rw[hv]at h;cases h
   |some v=>
    rw[hv]at h
    simp at h
    subst h
    obtain⟨h3,h4⟩:=xj (P:=P) (w:=w) hv x y
    refine⟨v,?_,fA h4⟩
    simp only[h1,h2]
    exact fG h3
  ·rename_i xs ys ha hb
   obtain⟨v,h3,h4⟩:=xg h (hev x _ ha) (hev y _ hb) x y
   exact⟨v,fG h3,h4⟩
  cases h
 case unOp op ty x=>
  split at h
  ·rename_i a ha
   have h1:=(dQ (hev x _ ha)).1
   cases hv:fD op a with
   |none=>rw[hv]at h;cases h
   |some v=>
    rw[hv]at h
    simp at h
    subst h
    obtain⟨h3,h4⟩:=zp (P:=P) (w:=w) hv
    refine⟨v,?_,fA h4⟩
    simp only[h1]
    exact fG h3
  cases h
 case convert src dst x=>
  split at h
  ·rename_i k n ds k' ha hs hk
   have h1:=(dQ (hev x _ ha)).1
   injection h with h
   subst h
   have hd:P.underlying dst=some (.int k'):=by
    unfold tz at hk
    cases hu:P.underlying dst with
    |none=>rw[hu]at hk;cases hk
    |some d=>rw[hu]at hk;cases d<;>simp at hk;rw[hk]
   refine⟨_,?_,fA rfl⟩
   simp only[h1]
   refine fG ?_
   unfold convert
   rw[Sem.run_bind,run_underlying hs,ar,Sem.run_bind,run_underlying hd,ar]
   rfl
  cases h
 case extract x i=>
  split at h
  ·rename_i ts ha
   obtain⟨vs,hvs,hsz,hr⟩:=hev x _ ha
   split at h
   ·rename_i cs hi
    injection h with h
    subst h
    obtain⟨u,hu,hc⟩:=hr i _ _ hi
    rcases hc with⟨_,hc⟩|⟨hc,_⟩
    ·refine⟨u,?_,hc⟩
     refine fG ?_
     simp only[hvs,Instr.extract,hu];rfl
    cases hc
   ·rename_i y hi
    injection h with h
    subst h
    obtain⟨u,hu,hc⟩:=hr i _ _ hi
    rcases hc with⟨hc,_⟩|⟨_,z,hz,hc⟩
    ·cases hc
    injection hz with hz
    subst hz
    refine⟨u,?_,hc⟩
    refine fG ?_
    simp only[hvs,Instr.extract,hu];rfl
   cases h
  cases h
end
end
section
section
variable {P:Program} {ρ:Rho} {H:OH} {X:Nat->Prop} {w:World}
theorem py {t:TypeId} {n:Nat} (h:kh P t=some n): ∃i,P.info? t=some i/\i.size=n:=by
 unfold kh at h
 cases hi:P.info? t with
 |none=>rw[hi]at h;cases h
 |some i=>rw[hi]at h;simp at h;exact⟨i,rfl,h⟩
theorem wc {t:TypeId} {i:TypeInfo} (h:P.info? t=some i):(typeInfo t).run P w= .ok i w:=by
 unfold typeInfo
 show (match P.info? t with | some i => pure i | none => stuck "no such type" : Sem TypeInfo).run P w = _
 rw[h];rfl
theorem f5 {t:TypeId} {n:Nat} (h:kh P t=some n):(sizeOf t).run P w= .ok n w:=by
 obtain⟨i,hi,hn⟩:=py h
 unfold sizeOf
 rw[Sem.run_bind,wc hi,ar,hn]
 rfl
theorem pq {t:TypeId} {b:Bool} (h:nG P t=some b):(isAgg t).run P w= .ok b w:=by
 unfold nG at h
 cases hu:P.underlying t with
 |none=>rw[hu]at h;cases h
 |some d=>
  rw[hu]at h
  unfold isAgg
  rw[Sem.run_bind,run_underlying hu,ar]
  cases d<;>simp at h<;>subst h<;>rfl
theorem fH {t e:TypeId} (h:eQ P t=some e):P.underlying t=some (.slice e):=by
 unfold eQ at h
 cases hu:P.underlying t with
 |none=>rw[hu]at h;cases h
 |some d=>rw[hu]at h;cases d<;>simp at h;rw[h]
theorem mE {t:TypeId} {f off:Nat} {ft:TypeId} (h:pM P t f=some (off,ft)): ∃fs d,P.underlying t=some (.struct fs)/\fs[f]?=some d/\d.offset=off/\d.type=ft:=by
 unfold pM at h
 cases hu:P.underlying t with
 |none=>rw[hu]at h;cases h
 |some d=>
  rw[hu]at h
  cases d<;>simp at h
  rename_i fs
  obtain⟨d,hd,h1,h2⟩:=h
  exact⟨fs,d,rfl,hd,h1,h2⟩
def lS (ρ:Rho) (H:OH) (X:Nat->Prop) (w:World) (b off:Nat) (cs:List AV):Prop:=
 ∀(j:Nat) x,cs[j]?=some x-> ∃v:Value,w.cell? ⟨b,off+j,none⟩=some v/\v.oneCell'=true/\x.rel ρ H X w v
theorem lT {b off:Nat} {cs:List AV} (h:lS ρ H X w b off cs) (k:Nat):lS ρ H X w b (off+k) (cs.drop k):=by
 intro j x hx
 rw[List.getElem?_drop]at hx
 obtain⟨v,h1,h2⟩:=h _ _ hx
 exact⟨v,by rw[<- Nat.add_assoc]at h1;exact h1,h2⟩
theorem vp {b off:Nat} {cs:List AV} (h:lS ρ H X w b off cs):
  ∃vs:List Value,vs.length=cs.length/\(∀(j:Nat) v,vs[j]?=some v->w.cell? ((⟨b,off,none⟩:Addr).add j)=some v)/\(∀(j:Nat) x,cs[j]?=some x-> ∃u:Value,vs[j]?=some u/\u.oneCell'=true/\x.rel ρ H X w u):=by
 induction cs generalizing off with
 |nil=>exact⟨[],rfl,fun j v hv=>by simp at hv,fun j x hx=>by simp at hx⟩
 |cons c cs ih=>
  obtain⟨v,h1,h2,h3⟩:=h 0 c rfl
  obtain⟨vs,l1,l2,l3⟩:=ih (off:=off+1) (lT (cs:=c::cs) h 1)
  refine⟨v::vs,by simp[l1],fun j u hu=>?_,fun j x hx=>?_⟩
  ·cases j with
   |zero=>simp at hu;subst hu;simpa[Addr.add_lit] using h1
   |succ j=>
    simp at hu
    have:=l2 j u hu
    rw[Addr.add_lit]at this⊢
    rw[<- this];congr 2;omega
  cases j with
  |zero=>simp at hx;subst hx;exact⟨v,rfl,h2,h3⟩
  |succ j=>simp at hx;obtain⟨u,h⟩:=l3 j x hx;exact⟨u,by simpa using h.1,h.2⟩
theorem lZ {t:TypeId} {cs:List AV} {T:TV} {b off:Nat} (h:packT P t cs=some T) (hc:lS ρ H X w b off cs):
  ∃v,(loadVar t ⟨b,off,none⟩).run P w= .ok v w/\T.rel ρ H X w v:=by
 unfold packT at h
 split at h
 ·rename_i n hn ha
  split at h
  ·rename_i hl
   injection h with h
   subst h
   obtain⟨vs,l1,l2,l3⟩:=vp (cs:=cs.take n) (b:=b) (off:=off) (fun j x hx=>by
    rw[List.getElem?_take]at hx
    split at hx
    ·exact hc j x hx
    cases hx)
   refine⟨.agg vs.toArray,?_,vs.toArray,rfl,by simp[l1],fun j x hx=>?_⟩
   ·unfold loadVar
    rw[Sem.run_bind,pq ha,ar,if_pos rfl,Sem.run_bind,f5 hn,ar]
    have:=run_loadCells_list (P:=P) w ⟨b,off,none⟩ vs l2
    rw[show vs.length=n by rw[l1,List.length_take];omega]at this
    rw[Sem.run_bind,this]
    rfl
   simpa using l3 j x hx
  cases h
 ·rename_i hn ha
  split at h
  ·rename_i x l
   injection h with h
   subst h
   obtain⟨v,h1,h2,h3⟩:=hc 0 x rfl
   refine⟨v,?_,h3⟩
   unfold loadVar
   rw[Sem.run_bind,pq ha,ar,if_neg (by simp),run_load]
   simp only[Nat.add_zero]at h1
   rw[h1]
  cases h
 cases h
theorem jf {cs:List PV} {v:Value} (h:ee X w (.ptr cs) v): ∃b off,v= .pointer (some ⟨b,off,none⟩)/\ ¬X b/\lS ρ H X w b off (cs.map AV.p):=by
 cases h with
 |ptr b off cs f hX hb hc hr=>
  refine⟨b,off,rfl,hX,fun j x hx=>?_⟩
  rw[List.getElem?_map]at hx
  cases hj:cs[j]? with
  |none=>rw[hj]at hx;cases hx
  |some y=>
   rw[hj]at hx
   simp at hx
   subst hx
   exact⟨f j,hc j y hj,(hr j y hj).one,hr j y hj⟩
theorem pk {cs:List PV} {b off k:Nat} (h:ee X w (.ptr cs) (.pointer (some ⟨b,off,none⟩))):ee X w (.ptr (cs.drop k)) (.pointer (some ⟨b,off+k,none⟩)):=by
 cases h with
 |ptr b off cs f hX hb hc hr=>
  refine .ptr b (off+k) (cs.drop k) (fun j=>f (k+j)) hX hb (fun j x hx=>?_) (fun j x hx=>?_)
  ·rw[List.getElem?_drop]at hx
   rw[Nat.add_assoc];exact hc _ _ hx
  rw[List.getElem?_drop]at hx
  exact hr _ _ hx
theorem uB {a r:Nat} {o:OObj} {b c i:Nat} {e:List AV} (ho:objRel ρ H X w a r o) (hρ:ρ a r=some (b,c)) (he:o.elems[i]?=some e):lS ρ H X w b (i*o.es) e:=by
 obtain⟨_,_,h3⟩:=ho
 rw[hρ]at h3
 obtain⟨cells,hh,_,_,_,hv⟩:=h3
 intro j x hx
 obtain⟨v,h1,h2,h3⟩:=hv i e j x he hx
 refine⟨v,?_,h2,h3⟩
 unfold World.cell?
 simp only[hh]
 exact h1
theorem n9 {z:Int} {n:Nat} (h:uv z=some n):0<=z/\z.toNat=n:=by
 unfold uv at h
 split at h
 ·injection h with h;exact⟨by assumption,h⟩
 cases h
theorem Cv {ev:Operand->Option TV} {e:Operand->Value} (hev:iZ ρ H X w ev e) (hob: ∀(a r:Nat) (o:OObj),(H a)[r]?=some o->objRel ρ H X w a r o)
  {o:Oper} {t:TypeId} {x:Operand} {T:TV} (ho:o.op= .load t x) (h:aZ P ev H o.op=some T): ∃v,(execOp e o).run P w= .ok (.value v) w/\T.rel ρ H X w v:=by
 unfold execOp
 rw[ho]at h⊢
 simp only[aZ]at h
 split at h
 ·rename_i cs hx
  obtain⟨b,off,hv,hX,hc⟩:=jf (ρ:=ρ) (H:=H) (hev x _ hx)
  obtain⟨v,h1,h2⟩:=lZ h hc
  refine⟨v,fG ?_,h2⟩
  rw[hv]
  exact h1
 ·rename_i a r i j hx
  obtain⟨o',b,c,h1,h2,h3,hv⟩:=hev x _ hx
  split at h
  ·rename_i o'' ho'
   rw[h1]at ho'
   injection ho' with ho'
   subst ho'
   split at h
   ·rename_i el hel
    obtain⟨v,g1,g2⟩:=lZ h (lT (uB (hob a r _ h1) h2 hel) j)
    refine⟨v,fG ?_,g2⟩
    rw[hv]
    exact g1
   cases h
  cases h
 cases h
theorem rK {ev:Operand->Option TV} {e:Operand->Value} (hev:iZ ρ H X w ev e) (hob: ∀(a r:Nat) (o:OObj),(H a)[r]?=some o->objRel ρ H X w a r o)
  {o:Oper} {t:TypeId} {x ix:Operand} {T:TV} (ho:o.op= .indexAddr t x ix) (h:aZ P ev H o.op=some T): ∃v,(execOp e o).run P w= .ok (.value v) w/\T.rel ρ H X w v:=by
 unfold execOp
 rw[ho]at h⊢
 simp only[aZ]at h
 split at h
 ·rename_i k n hix
  have hn:=(dQ (hev ix _ hix)).1
  split at h
  ·cases h
  rename_i i hi
  obtain⟨h0,hi⟩:=n9 hi
  split at h
  ·rename_i el xs hs hx
   have hx:=hev x _ hx
   split at h
   ·rename_i c hc
    split at h
    ·rename_i hsz
     injection h with h
     subst h
     generalize hvx:e x=vx at*
     have hil:i<xs.length:=(List.getElem?_eq_some_iff.1 hc).1
     cases hx with
     |nil a c=>simp at hil
     |sl b off es cap xs f hX hb hes hcap hm hcell hrep=>
      have hes':c.length=es:=hes c (List.mem_of_getElem? hc)
      refine⟨.pointer (some ⟨b,off+i*es,none⟩),fG ?_,.ptr b (off+i*es) c (f i) hX hb (fun j y hy=>hcell i c j y hc hy) (fun j y hy=>hrep i c j y hc hy)⟩
      unfold Instr.indexAt
      rw[hn,hvx,Sem.run_bind]
      show Result.andThen (.ok (k,n) w) _=_
      rw[ar]
      simp only[Sem.run_bind,run_underlying (fH hs),ar,Sem.run_pure]
      rw[if_pos ⟨h0,by omega⟩,Sem.run_bind,f5 hsz,ar]
      rw[hi,Addr.add_lit,hes']
      rfl
    cases h
   cases h
  ·rename_i el a r off len hs hx
   obtain⟨o',h1,h2,h3⟩:=hev x _ hx
   split at h
   ·rename_i o'' ho'
    rw[h1]at ho'
    injection ho' with ho'
    subst ho'
    split at h
    ·rename_i hcond
     injection h with h
     subst h
     rcases h3 with⟨_,_,hlen,_⟩|⟨b,c,cap,hρ,hv,_⟩
     ·omega
     refine⟨.pointer (some ⟨b,(off+i)*o'.es+0,none⟩),fG ?_,o',b,c,h1,hρ,by omega,rfl⟩
     unfold Instr.indexAt
     rw[hn,hv,Sem.run_bind]
     show Result.andThen (.ok (k,n) w) _=_
     rw[ar]
     simp only[Sem.run_bind,run_underlying (fH hs),ar,Sem.run_pure]
     rw[if_pos ⟨h0,by omega⟩,Sem.run_bind,f5 hcond.1,ar]
     rw[hi,Addr.add_lit,Nat.add_zero,Nat.add_mul]
     rfl
    cases h
   cases h
  ·rename_i cs hs hx
   split at h
   ·rename_i m el ha
    split at h
    ·rename_i sz hsz
     split at h
     ·rename_i him
      injection h with h
      subst h
      obtain⟨b,off,hv,hX,hc⟩:=jf (ρ:=ρ) (H:=H) (hev x _ hx)
      have hr:=hev x _ hx
      rw[hv]at hr
      refine⟨.pointer (some ⟨b,off+i*sz,none⟩),fG ?_,pk hr⟩
      unfold Instr.indexAt
      rw[hn,hv,Sem.run_bind]
      show Result.andThen (.ok (k,n) w) _=_
      rw[ar]
      simp only[Sem.run_bind,run_underlying (jl ha),ar,Sem.run_pure,Instr.sureAddr]
      rw[if_pos ⟨h0,by omega⟩,Sem.run_bind,f5 hsz,ar,hi,Addr.add_lit]
      rfl
     cases h
    cases h
   cases h
  ·rename_i a r kk j hs hx
   split at h
   ·rename_i m el ha
    split at h
    ·rename_i sz hsz
     split at h
     ·rename_i him
      injection h with h
      subst h
      obtain⟨o',b,c,g1,g2,g3,hv⟩:=hev x _ hx
      refine⟨.pointer (some ⟨b,kk*o'.es+(j+i*sz),none⟩),fG ?_,o',b,c,g1,g2,g3,rfl⟩
      unfold Instr.indexAt
      rw[hn,hv,Sem.run_bind]
      show Result.andThen (.ok (k,n) w) _=_
      rw[ar]
      simp only[Sem.run_bind,run_underlying (jl ha),ar,Sem.run_pure,Instr.sureAddr]
      rw[if_pos ⟨h0,by omega⟩,Sem.run_bind,f5 hsz,ar,hi,Addr.add_lit,Nat.add_assoc]
      rfl
     cases h
    cases h
   cases h
  ·rename_i b off hs hx
   split at h
   ·rename_i m el ha
    split at h
    ·rename_i sz hsz
     split at h
     ·rename_i him
      injection h with h
      subst h
      have hv:=(dQ (hev x _ hx)).1
      refine⟨.pointer (some ⟨b,off+i*sz,none⟩),fG ?_,fA rfl⟩
      unfold Instr.indexAt
      rw[hn,hv,Sem.run_bind]
      show Result.andThen (.ok (k,n) w) _=_
      rw[ar]
      simp only[Sem.run_bind,run_underlying (jl ha),ar,Sem.run_pure,Instr.sureAddr]
      rw[if_pos ⟨h0,by omega⟩,Sem.run_bind,f5 hsz,ar,hi,Addr.add_lit]
      rfl
     cases h
    cases h
   cases h
  cases h
 cases h
theorem rJ {ev:Operand->Option TV} {e:Operand->Value} (hev:iZ ρ H X w ev e)
  {o:Oper} {t:TypeId} {x:Operand} {f:Nat} {T:TV} (ho:o.op= .fieldAddr t x f) (h:aZ P ev H o.op=some T): ∃v,(execOp e o).run P w= .ok (.value v) w/\T.rel ρ H X w v:=by
 unfold execOp
 rw[ho]at h⊢
 simp only[aZ]at h
 split at h
 ·rename_i off ft cs hf hx
  obtain⟨b,o0,hv,hX,hc⟩:=jf (ρ:=ρ) (H:=H) (hev x _ hx)
  have hx:=hev x _ hx
  split at h
  ·rename_i n hsz
   injection h with h
   subst h
   obtain⟨fs,d,h1,h2,h3,h4⟩:=mE hf
   rw[hv]at hx
   refine⟨_,fG ?_,pk hx⟩
   unfold Instr.fieldAt
   rw[Sem.run_bind,run_underlying h1,ar]
   simp only[h2,hv,Instr.sureAddr,Sem.run_bind,Sem.run_pure,ar,fieldPlace,h4,f5 hsz]
   rw[if_neg (by simp)]
   simp only[Sem.run_pure,ar,h3,Addr.add_lit]
  cases h
 ·rename_i off ft a r i j hf hx
  obtain⟨o',b,c,g1,g2,g3,hv⟩:=hev x _ hx
  split at h
  ·rename_i n hsz
   injection h with h
   subst h
   obtain⟨fs,d,h1,h2,h3,h4⟩:=mE hf
   refine⟨_,fG ?_,o',b,c,g1,g2,g3,rfl⟩
   unfold Instr.fieldAt
   rw[Sem.run_bind,run_underlying h1,ar]
   simp only[h2,hv,Instr.sureAddr,Sem.run_bind,Sem.run_pure,ar,fieldPlace,h4,f5 hsz]
   rw[if_neg (by simp)]
   simp only[Sem.run_pure,ar,h3,Addr.add_lit,Nat.add_assoc]
  cases h
 cases h
end
end
section
section
variable {P:Program} {ρ:Rho} {H:OH} {X:Nat->Prop} {w:World}
theorem sq {t:TypeId} {cs:List AV} {T:TV} {vs:Array Value} {off:Nat} (h:packT P t (cs.drop off)=some T) (hs:vs.size=cs.length)
  (hc: ∀(j:Nat) x,cs[j]?=some x-> ∃u:Value,vs[j]?=some u/\u.oneCell'=true/\x.rel ρ H X w u):
  ∃v,(part t vs off).run P w= .ok v w/\T.rel ρ H X w v:=by
 unfold packT at h
 split at h
 ·rename_i n hn ha
  split at h
  ·rename_i hl
   injection h with h
   subst h
   refine⟨.agg (vs.extract off (off+n)),?_,_,rfl,?_,fun j x hx=>?_⟩
   ·unfold part
    rw[Sem.run_bind,pq ha,ar,if_pos rfl,Sem.run_bind,f5 hn,ar]
    rfl
   ·simp at hl⊢;omega
   rw[List.getElem?_take]at hx
   split at hx
   ·rename_i hj
    rw[List.getElem?_drop]at hx
    obtain⟨u,h1,h2⟩:=hc _ x hx
    refine⟨u,?_,h2⟩
    rw[Array.getElem?_extract,if_pos (by have:=(Array.getElem?_eq_some_iff.1 h1).1;omega)]
    exact h1
   cases hx
  cases h
 ·rename_i hn ha
  split at h
  ·rename_i x l hl
   injection h with h
   subst h
   have hx:cs[off]?=some x:=by
    have:(cs.drop off)[0]?=some x:=by rw[hl];rfl
    rw[List.getElem?_drop]at this;simpa using this
   obtain⟨u,h1,h2,h3⟩:=hc _ x hx
   refine⟨u,?_,h3⟩
   unfold part
   rw[Sem.run_bind,pq ha,ar,if_neg (by simp),h1]
   rfl
  cases h
 cases h
theorem zj {ev:Operand->Option TV} {e:Operand->Value} (hev:iZ ρ H X w ev e)
  {o:Oper} {t:TypeId} {x:Operand} {f:Nat} {T:TV} (ho:o.op= .field t x f) (h:aZ P ev H o.op=some T): ∃v,(execOp e o).run P w= .ok (.value v) w/\T.rel ρ H X w v:=by
 unfold execOp
 rw[ho]at h⊢
 simp only[aZ]at h
 split at h
 ·rename_i off ft cs hf hx
  obtain⟨vs,hv,hs,hc⟩:=hev x _ hx
  obtain⟨fs,d,h1,h2,h3,h4⟩:=mE hf
  obtain⟨v,g1,g2⟩:=sq h hs hc
  refine⟨v,fG ?_,g2⟩
  unfold Instr.field
  rw[Sem.run_bind,run_underlying h1,ar]
  simp only[h2,hv,asAgg,Sem.run_bind,Sem.run_pure,ar,h3,h4,g1]
 cases h
theorem zk {ev:Operand->Option TV} {e:Operand->Value} (hev:iZ ρ H X w ev e)
  {o:Oper} {t:TypeId} {x ix:Operand} {T:TV} (ho:o.op= .index t x ix) (h:aZ P ev H o.op=some T): ∃v,(execOp e o).run P w= .ok (.value v) w/\T.rel ρ H X w v:=by
 unfold execOp
 rw[ho]at h⊢
 simp only[aZ]at h
 split at h
 ·rename_i k n hix
  have hn:=(dQ (hev ix _ hix)).1
  split at h
  ·cases h
  rename_i i hi
  obtain⟨h0,hi⟩:=n9 hi
  split at h
  ·rename_i m el cs ha hx
   split at h
   ·rename_i sz hsz
    split at h
    ·rename_i him
     obtain⟨vs,hv,hs,hc⟩:=hev x _ hx
     obtain⟨v,g1,g2⟩:=sq h hs hc
     refine⟨v,fG ?_,g2⟩
     unfold Instr.index
     rw[hn,hv,Sem.run_bind]
     show Result.andThen (.ok (k,n) w) _=_
     rw[ar]
     simp only[Sem.run_bind,run_underlying (jl ha),ar,Sem.run_pure]
     rw[if_pos ⟨h0,by omega⟩,Sem.run_bind,f5 hsz,ar,hi,g1]
    cases h
   cases h
  cases h
 cases h
theorem i5 {ev:Operand->Option TV} {e:Operand->Value} (hev:iZ ρ H X w ev e) {x:Option Operand} {d n:Nat} (h:eK ev x d=some n):
  (x=none/\n=d)\/ ∃y k z,x=some y/\e y= .int k z/\0<=z/\z.toNat=n:=by
 unfold eK at h
 split at h
 ·injection h with h;exact .inl ⟨rfl,h.symm⟩
 rename_i dd y
 split at h
 ·rename_i k z hy
  obtain⟨h1,h2⟩:=n9 h
  exact .inr ⟨y,k,z,rfl,(dQ (hev y _ hy)).1,h1,h2⟩
 cases h
theorem fO {k:IntKind} {z:Int} {y n:Nat} {c:BoundsCode} (h0:0<=z) (hn:z.toNat=n) (hy:n<=y):(Instr.sliceBound (.int k z) y c).run P w= .ok n w:=by
 unfold Instr.sliceBound
 show(if 0<=z/\z<=y then(pure z.toNat:Sem Nat)else boundsPanic k z y c).run P w=_
 rw[if_pos ⟨h0,by omega⟩,hn]
 rfl
theorem gN {ev:Operand->Option TV} {e:Operand->Value} (hev:iZ ρ H X w ev e) {lo hi:Option Operand} {len cap l h:Nat} (hl:eK ev lo 0=some l) (hh:eK ev hi len=some h) (h1:l<=h) (h2:h<=cap):
  (Instr.sliceBounds true len cap (lo.map e) (hi.map e) none).run P w= .ok (l,h,cap) w:=by
 unfold Instr.sliceBounds
 rcases i5 hev hl with⟨rfl,rfl⟩|⟨y,k,z,rfl,a1,a2,a3⟩
 ·rcases i5 hev hh with⟨rfl,rfl⟩|⟨y',k',z',rfl,b1,b2,b3⟩
  ·rfl
  simp only[am,ay,Sem.run_bind,Sem.run_pure,ar,b1]
  rw[fO b2 b3 h2];rfl
 rcases i5 hev hh with⟨rfl,rfl⟩|⟨y',k',z',rfl,b1,b2,b3⟩
 ·simp only[am,ay,Sem.run_bind,Sem.run_pure,ar,a1]
  rw[fO a2 a3 h1];rfl
 simp only[am,ay,Sem.run_bind,Sem.run_pure,ar,a1,b1]
 rw[fO b2 b3 h2,ar,fO a2 a3 h1];rfl
theorem p7 {ev:Operand->Option TV} {e:Operand->Value} (hev:iZ ρ H X w ev e) {lo hi mx:Operand} {len cap l h m:Nat} (hl:eK ev (some lo) 0=some l) (hh:eK ev (some hi) 0=some h) (hm:eK ev (some mx) 0=some m) (h1:l<=h) (h2:h<=m) (h3:m<=cap):
  (Instr.sliceBounds true len cap (some (e lo)) (some (e hi)) (some (e mx))).run P w= .ok (l,h,m) w:=by
 unfold Instr.sliceBounds
 rcases i5 hev hl with⟨h,_⟩|⟨y,k,z,hy,a1,a2,a3⟩
 ·cases h
 rcases i5 hev hh with⟨h,_⟩|⟨y',k',z',hy',b1,b2,b3⟩
 ·cases h
 rcases i5 hev hm with⟨h,_⟩|⟨y2,k2,z2,hy2,c1,c2,c3⟩
 ·cases h
 injection hy with hy
 injection hy' with hy'
 injection hy2 with hy2
 subst hy hy' hy2
 simp only[Sem.run_bind,Sem.run_pure,ar,a1,b1,c1,Option.isSome_some,if_true]
 rw[fO c2 c3 h3,ar,fO b2 b3 h2,ar,fO a2 a3 h1];rfl
theorem zl {ev:Operand->Option TV} {e:Operand->Value} (hev:iZ ρ H X w ev e) (hob: ∀(a r:Nat) (o:OObj),(H a)[r]?=some o->objRel ρ H X w a r o)
  {o:Oper} {t:TypeId} {x:Operand} {lo hi mx:Option Operand} {T:TV} (ho:o.op= .slice t x lo hi mx) (h:aZ P ev H o.op=some T): ∃v,(execOp e o).run P w= .ok (.value v) w/\T.rel ρ H X w v:=by
 unfold execOp
 rw[ho]at h⊢
 cases mx with
 |some mx=>
  cases lo with
  |none=>simp only[aZ]at h;cases h
  |some lo=>
  cases hi with
  |none=>simp only[aZ]at h;cases h
  |some hi=>
  simp only[aZ]at h
  split at h
  ·rename_i el a r off len hs hx
   obtain⟨o',g1,g2,g3⟩:=hev x _ hx
   have hu:=fH hs
   split at h
   ·rename_i l hh m o'' hl hhi hmx ho''
    rw[g1]at ho''
    injection ho'' with ho''
    subst ho''
    split at h
    ·rename_i hcond
     obtain⟨c1,c2,c3,c4,c5⟩:=hcond
     injection h with h
     subst h
     rcases g3 with⟨_,_,h0,_⟩|⟨b,c,cap,hρ,hv,hcap,hst⟩
     ·omega
     refine⟨_,fG ?_,o',g1,by omega,.inr ⟨b,c,m-l,hρ,rfl,by omega,fun h=>by omega⟩⟩
     unfold Instr.sliceAt
     simp only[Sem.run_bind,run_underlying hu,ar]
     unfold Instr.slice
     simp only[Sem.run_bind,run_underlying hu,ar,hv,am]
     rw[p7 hev hl hhi hmx (by omega) c3 (by omega),ar]
     simp only[Sem.run_bind,f5 c1,ar,Sem.run_pure]
     rw[if_neg (by omega)]
     simp only[am,Addr.add_lit]
     rw[Nat.add_mul]
    cases h
   cases h
  cases h
 |none=>
 simp only[aZ]at h
 split at h
 ·rename_i el xs hs hx
  have hx:=hev x _ hx
  generalize hvx:e x=vx at*
  split at h
  ·rename_i l hh n hl hhi hsz
   split at h
   ·rename_i hcond
    injection h with h
    subst h
    obtain⟨c1,c2,c3⟩:=hcond
    have hu:=fH hs
    cases hx with
    |nil a c=>
     have hh0:hh=0:=by simpa using c2
     subst hh0
     have hl0:l=0:=by omega
     subst hl0
     refine⟨.slice (if c=0 then a else a.map (·.add (0*n))) (0-0) (c-0),fG ?_,?_⟩
     ·unfold Instr.sliceAt
      simp only[Sem.run_bind,run_underlying hu,ar]
      unfold Instr.slice
      simp only[Sem.run_bind,run_underlying hu,ar,hvx,ay]
      rw[gN hev hl (show eK ev hi 0=some 0 from hhi) (Nat.le_refl _) (Nat.zero_le _),ar]
      simp only[Sem.run_bind,f5 hsz,ar,Sem.run_pure]
     simp only[List.take_nil,List.drop_nil]
     exact ee.nil _ _
    |sl b off es cap xs f hX hb hes hcap hm hcell hrep=>
     refine⟨.slice (if cap=l then some ⟨b,off,none⟩else(some (⟨b,off,none⟩:Addr)).map (·.add (l*n))) (hh-l) (cap-l),fG ?_,?_⟩
     ·unfold Instr.sliceAt
      simp only[Sem.run_bind,run_underlying hu,ar]
      unfold Instr.slice
      simp only[Sem.run_bind,run_underlying hu,ar,hvx,ay]
      rw[gN hev hl hhi c1 (by omega),ar]
      simp only[Sem.run_bind,f5 hsz,ar,Sem.run_pure]
     show ee _ _ _ _
     have hlen:((xs.take hh).drop l).length=hh-l:=by simp;omega
     by_cases hlh:l=hh
     ·subst hlh
      rw[show(xs.take l).drop l=[] by rw[List.drop_eq_nil_iff];simp;omega]
      rw[Nat.sub_self]
      exact ee.nil _ _
     rw[if_neg (by omega)]
     simp only[am,Addr.add_lit]
     rw[<- hlen]
     have hes':es=n:=by
      cases hx0:xs with
      |nil=>rw[hx0]at c2;simp at c2;omega
      |cons y ys=>have h1:=hes y (by rw[hx0];simp);have h2:=c3 y (by rw[hx0];simp);omega
     subst hes'
     have hsub: ∀(i:Nat) y,((xs.take hh).drop l)[i]?=some y->xs[l+i]?=some y:=fun i y hy=>by
      rw[List.getElem?_drop,List.getElem?_take]at hy
      split at hy
      ·exact hy
      cases hy
     refine .sl b (off+l*es) es (cap-l) _ (fun i j=>f (l+i) j) hX hb (fun y hy=>hes y (List.mem_of_mem_take (List.mem_of_mem_drop hy))) (by rw[hlen];omega) (by rw[hlen];omega) (fun i y j z h1 h2=>?_) (fun i y j z h1 h2=>hrep _ y j z (hsub i y h1) h2)
     have:=hcell _ y j z (hsub i y h1) h2
     rw[<- this]
     congr 2
     rw[Nat.add_mul];omega
   cases h
  cases h
 ·rename_i el a r off len hs hx
  obtain⟨o',g1,g2,g3⟩:=hev x _ hx
  have hu:=fH hs
  split at h
  ·rename_i l hh o'' hl hhi ho''
   rw[g1]at ho''
   injection ho'' with ho''
   subst ho''
   have hcle: ∀b c,ρ a r=some (b,c)->o'.elems.length<=c:=fun b c hρ=>by
    obtain⟨_,_,h3⟩:=hob a r o' g1
    rw[hρ]at h3
    obtain⟨_,_,_,h,_⟩:=h3
    exact h
   split at h
   ·rename_i hcond
    obtain⟨c1,c2,c3⟩:=hcond
    injection h with h
    subst h
    rcases g3 with⟨_,_,h0,_⟩|⟨b,c,cap,hρ,hv,hcap,hst⟩
    ·omega
    have:=hcle b c hρ
    refine⟨_,fG ?_,o',g1,by omega,.inr ⟨b,c,cap-l,hρ,rfl,by omega,fun h=>by have:=hst h;omega⟩⟩
    unfold Instr.sliceAt
    simp only[Sem.run_bind,run_underlying hu,ar]
    unfold Instr.slice
    simp only[Sem.run_bind,run_underlying hu,ar,hv,ay]
    rw[gN hev hl hhi (by omega) (by omega),ar]
    simp only[Sem.run_bind,f5 c1,ar,Sem.run_pure]
    rw[if_neg (by omega)]
    simp only[am,Addr.add_lit]
    rw[Nat.add_mul]
   split at h
   ·rename_i hcond
    obtain⟨c1,c2,c3⟩:=hcond
    injection h with h
    subst h
    subst c2
    rcases g3 with⟨_,hv,h0,_⟩|⟨b,c,cap,hρ,hv,hcap,hst⟩
    ·refine⟨.slice (if 0=l then none else(none:Option Addr).map (·.add (l*o'.es))) 0 (0-l),fG ?_,ee.nil _ _⟩
     unfold Instr.sliceAt
     simp only[Sem.run_bind,run_underlying hu,ar]
     unfold Instr.slice
     simp only[Sem.run_bind,run_underlying hu,ar,hv,ay]
     subst h0
     rw[gN hev hl hhi (by omega) (by omega),ar]
     simp only[Sem.run_bind,f5 c1,ar,Sem.run_pure,Nat.sub_self]
    have:=hcle b c hρ
    refine⟨.slice (if cap=l then some ⟨b,off*o'.es,none⟩else(some (⟨b,off*o'.es,none⟩:Addr)).map (·.add (l*o'.es))) 0 (cap-l),fG ?_,ee.nil _ _⟩
    unfold Instr.sliceAt
    simp only[Sem.run_bind,run_underlying hu,ar]
    unfold Instr.slice
    simp only[Sem.run_bind,run_underlying hu,ar,hv,ay]
    rw[gN hev hl hhi (by omega) (by omega),ar]
    simp only[Sem.run_bind,f5 c1,ar,Sem.run_pure,Nat.sub_self]
   cases h
  cases h
 cases h
theorem tl {ev:Operand->Option TV} {e:Operand->Value} (hev:iZ ρ H X w ev e)
  {o:Oper} {x:Operand} {T:TV} (ho:o.op= .nilCheck x) (h:aZ P ev H o.op=some T): ∃v,(execOp e o).run P w= .ok (.value v) w/\T.rel ρ H X w v:=by
 unfold execOp
 rw[ho]at h⊢
 simp only[aZ]at h
 split at h
 ·rename_i cs hx
  obtain⟨b,off,hv,hX,hc⟩:=jf (ρ:=ρ) (H:=H) (hev x _ hx)
  injection h with h
  subst h
  refine⟨e x,?_,hev x _ hx⟩
  simp only[hv];rfl
 ·rename_i a r i j hx
  have hr:=hev x _ hx
  obtain⟨o',b,c,h1,h2,h3,hv⟩:=hr
  injection h with h
  subst h
  refine⟨e x,?_,hev x _ hx⟩
  simp only[hv];rfl
 cases h
theorem Iw {t e ty:TypeId} {a:Option Addr} {n c:Nat} (ht:P.underlying t=some (.slice e)):(Builtin.len_ #[t] ty #[.slice a n c]).run P w= .ok (goInt n) w:=by
 simp[Builtin.len_,run_underlying ht]
theorem Ej {ev:Operand->Option TV} {e:Operand->Value} (hev:iZ ρ H X w ev e)
  {o:Oper} {args:Array Operand} {argTypes:Array TypeId} {T:TV} (ho:o.op= .call {callee:= .builtin .len,args,argTypes}) (h:aZ P ev H o.op=some T): ∃v,(execOp e o).run P w= .ok (.value v) w/\T.rel ρ H X w v:=by
 unfold execOp
 rw[ho]at h⊢
 simp only[aZ]at h
 obtain⟨args⟩:=args
 obtain⟨argTypes⟩:=argTypes
 split at h
 ·rename_i x t hx ht
  simp only at hx ht
  subst hx ht
  have key: ∀a n c el,eQ P t=some el->e x= .slice a n c->T= .raw (.int .i64 n)-> ∃v,(do let d<- resolve e {callee:= .builtin .len,args:=⟨[x]⟩,argTypes:=⟨[t]⟩} o.type;invoke d.target d.args:Sem Next).run P w= .ok (.value v) w/\T.rel ρ H X w v:=by
   intro a n c el hs hv hT
   subst hT
   refine⟨.int .i64 n,?_,fA rfl⟩
   simp only[resolve,invoke,builtin,Sem.run_bind,Sem.run_pure,ar,List.map_toArray,List.map_cons,List.map_nil,hv,Iw (fH hs)]
   rfl
  split at h
  ·rename_i el xs hs hx
   injection h with h
   have hx:=hev x _ hx
   generalize hvx:e x=vx at hx
   cases hx with
   |nil a c=>exact key _ _ _ _ hs hvx h.symm
   |sl b off es cap xs f=>exact key _ _ _ _ hs hvx h.symm
  ·rename_i el a r off len hs hx
   injection h with h
   obtain⟨o',g1,g2,g3⟩:=hev x _ hx
   rcases g3 with⟨_,hv,h0,_⟩|⟨b,c,cap,hρ,hv,_⟩
   ·subst h0;exact key _ _ _ _ hs hv h.symm
   exact key _ _ _ _ hs hv h.symm
  ·rename_i el a n c hs hx
   injection h with h
   exact key _ _ _ _ hs (dQ (hev x _ hx)).1 h.symm
  cases h
 cases h
end
end
section
section
variable {P:Program} {ρ:Rho} {H:OH} {X:Nat->Prop} {w:World}
def mz (ρ:Rho) (H:OH) (X:Nat->Prop) (w:World) (cs:List AV) (vs:Array Value):Prop:=
 vs.size=cs.length/\ ∀(j:Nat) x,cs[j]?=some x-> ∃u:Value,vs[j]?=some u/\u.oneCell'=true/\x.rel ρ H X w u
theorem ld {v:Value} (h:v.oneCell'=true):v.cells= #[v]:=by cases v<;>first|rfl|cases h
theorem ko {t:TV} {cs:List AV} {v:Value} (h:cellsOf t=some cs) (hr:t.rel ρ H X w v):mz ρ H X w cs v.cells:=by
 unfold cellsOf at h
 split at h
 ·rename_i x
  injection h with h
  subst h
  have h1:v.oneCell'=true:=ee.one hr
  rw[ld h1]
  refine⟨rfl,fun j y hy=>?_⟩
  cases j with
  |zero=>simp at hy;subst hy;exact⟨v,rfl,h1,hr⟩
  |succ j=>simp at hy
 ·injection h with h
  subst h
  obtain⟨vs,rfl,h1,h2⟩:=hr
  exact⟨h1,h2⟩
 cases h
theorem xY {z:List Value} (h:z.all (·.oneCell')=true):mz ρ H X w (z.map AV.raw) z.toArray:=by
 simp only[List.all_eq_true]at h
 refine⟨by simp,fun j x hx=>?_⟩
 rw[List.getElem?_map]at hx
 cases hj:z[j]? with
 |none=>rw[hj]at hx;cases hx
 |some u=>
  rw[hj]at hx
  simp at hx
  subst hx
  have h1:=h u (List.mem_of_getElem? hj)
  exact⟨u,by simpa using hj,h1,ee.raw u h1⟩
theorem pN (off:Nat): ∀(vs:List Value) (k:Nat) (cells:Array Value),off+k+vs.length<=cells.size->
  ((vs.zipIdx k).foldl (fun cs (c,j)=>cs.setIfInBounds (off+j) c) cells).size=cells.size/\
  ∀j:Nat,((vs.zipIdx k).foldl (fun cs (c,j)=>cs.setIfInBounds (off+j) c) cells)[j]?=if off+k<=j/\j<off+k+vs.length then vs[j-(off+k)]? else cells[j]?
 |[],k,cells,_=>⟨rfl,fun j=>by rw[if_neg (by simp)];rfl⟩
 |v::vs,k,cells,h=>by
  simp at h
  obtain⟨h1,h2⟩:=pN off vs (k+1) (cells.setIfInBounds (off+k) v) (by simp;omega)
  simp only[List.zipIdx_cons,List.foldl_cons]
  refine⟨by rw[h1];simp,fun j=>?_⟩
  rw[h2]
  by_cases hj:j=off+k
  ·subst hj
   rw[if_neg (by omega),if_pos (by simp)]
   rw[Array.getElem?_setIfInBounds_self_of_lt (by omega)]
   simp
  by_cases hr:off+(k+1)<=j/\j<off+(k+1)+vs.length
  ·rw[if_pos hr,if_pos (by simp;omega)]
   rw[show j-(off+k)=(j-(off+(k+1)))+1 by omega,List.getElem?_cons_succ]
  rw[if_neg hr,if_neg (by simp;omega),Array.getElem?_setIfInBounds_ne (by omega)]
theorem wg {α:Type} {l ys:List α} {off:Nat} (h:off+ys.length<=l.length) (j:Nat):
  (l.take off++ys++l.drop (off+ys.length))[j]?=if off<=j/\j<off+ys.length then ys[j-off]? else l[j]?:=by
 have hlt:(l.take off).length=off:=by simp;omega
 by_cases h1:j<off
 ·rw[if_neg (by omega),List.append_assoc,List.getElem?_append_left (by omega),List.getElem?_take,if_pos h1]
 by_cases h2:j<off+ys.length
 ·rw[if_pos ⟨by omega,h2⟩,List.append_assoc,List.getElem?_append_right (by omega),hlt,List.getElem?_append_left (by omega)]
 rw[if_neg (by omega),List.getElem?_append_right (by simp;omega),List.getElem?_drop]
 congr 1
 simp
 omega
theorem DT {cs ys:List AV} {vs us:Array Value} {off:Nat} (h1:mz ρ H X w cs vs) (h2:mz ρ H X w ys us) (h:off+ys.length<=cs.length):
  mz ρ H X w (cs.take off++ys++cs.drop (off+ys.length)) (us.zipIdx.foldl (fun cs (c,j)=>cs.setIfInBounds (off+j) c) vs):=by
 obtain⟨us⟩:=us
 have hul:us.length=ys.length:=h2.1
 have hf:=pN off us 0 vs (by rw[h1.1];simp;omega)
 have e:(us.toArray.zipIdx.foldl (fun cs (c,j)=>cs.setIfInBounds (off+j) c) vs)=((us.zipIdx 0).foldl (fun cs (c,j)=>cs.setIfInBounds (off+j) c) vs):=by
  rw[<- Array.foldl_toList];simp
 rw[e]
 refine⟨by rw[hf.1,h1.1];simp;omega,fun j x hx=>?_⟩
 rw[wg h]at hx
 rw[hf.2 j]
 split at hx
 ·rename_i hj
  rw[if_pos (by omega)]
  obtain⟨u,h3,h4⟩:=h2.2 _ _ hx
  exact⟨u,by simpa using h3,h4⟩
 rename_i hj
 rw[if_neg (by omega)]
 exact h1.2 _ _ hx
theorem rP {pl:List (Nat×Nat)} {ev:Operand->Option TV} {e:Operand->Value} (hev:iZ ρ H X w ev e): ∀(parts:List (Nat×Operand)) (cs cs':List AV) (vs:Array Value),
  mz ρ H X w cs vs->iC pl ev cs parts=some cs'-> ∃vs',Instr.fill (pl.toArray[·]?) vs (parts.map fun(i,x)=>(i,e x))=some vs'/\mz ρ H X w cs' vs'
 |[],cs,cs',vs,h,hf=>by simp only[iC]at hf;injection hf with hf;subst hf;exact⟨vs,rfl,h⟩
 |(f,x)::rest,cs,cs',vs,h,hf=>by
  simp only[iC]at hf
  split at hf
  ·rename_i off n ys hp hx
   obtain⟨t,ht,hys⟩:=Option.bind_eq_some_iff.1 hx
   split at hf
   ·rename_i hc
    obtain⟨c1,c2⟩:=hc
    subst c1
    have hr:=ko hys (hev x t ht)
    have h2:=DT h hr c2
    obtain⟨vs',h3,h4⟩:=rP hev rest _ cs' _ h2 hf
    refine⟨vs',?_,h4⟩
    simp only[List.map_cons,Instr.fill]
    have hp':pl.toArray[f]?=some (off,ys.length):=by simpa using hp
    rw[hp']
    simp only
    rw[if_neg]
    ·exact h3
    simp only[Bool.or_eq_true,decide_eq_true_eq]
    have:=hr.1
    have:=h.1
    omega
   cases hf
  cases hf
theorem zi {ev:Operand->Option TV} {e:Operand->Value} (hev:iZ ρ H X w ev e)
  {o:Oper} {t:TypeId} {parts:Array (Nat×Operand)} {T:TV} (ho:o.op= .build t parts) (h:aZ P ev H o.op=some T): ∃v,(execOp e o).run P w= .ok (.value v) w/\T.rel ρ H X w v:=by
 unfold execOp
 rw[ho]at h⊢
 simp only[aZ]at h
 split at h
 ·rename_i z pl hz hpl
  split at h
  ·rename_i hall
   cases hf:iC pl ev (z.map AV.raw) parts.toList with
   |none=>rw[hf]at h;cases h
   |some cs=>
    rw[hf]at h
    simp at h
    subst h
    obtain⟨vs,h1,h2,h3⟩:=rP hev parts.toList _ cs _ (xY hall) hf
    refine⟨.agg vs,fG (run_build w t _ vs ?_),vs,rfl,h2,h3⟩
    unfold Program.built
    unfold jy at hz
    cases hi:P.info? t with
    |none=>rw[hi]at hz;cases hz
    |some it=>
     rw[hi]at hz
     unfold qP at hpl
     cases hu:P.underlying t with
     |none=>rw[hu]at hpl;cases hpl
     |some d=>
      rw[hu]at hpl
      cases d<;>simp at hpl
      case array n el=>
       cases hie:P.info? el with
       |none=>simp[hie]at hpl
       |some ie=>
       have hpl0:pl=[]:=by
        simp[hie]at hpl
        exact hpl
       subst hpl0
       have hnil:parts.toList=[]:=by
        cases hp:parts.toList with
        |nil=>rfl
        |cons p ps=>rw[hp]at hf;simp[iC]at hf
       cases hzz:it.zero with
       |none=>simp[hzz]at hz
       |some zv=>
        simp[hzz]at hz
        subst hz
        rw[hnil]at h1
        have hpn:parts= #[]:=by simpa using hnil
        subst hpn
        simp only[hie,hzz]
        simpa[Instr.fill] using h1
      case struct fs=>
      cases hzz:it.zero with
      |none=>simp[hzz]at hz
      |some zv=>
       simp[hzz]at hz
       subst hz
       simp only[hpl,hzz]
       rw[<- h1]
       simp
  cases h
 cases h
theorem fw {ev:Operand->Option TV}: ∀{l:List Operand} {ts:List TV},bO ev l=some ts->ts.length=l.length/\ ∀(j:Nat) t,ts[j]?=some t-> ∃x,l[j]?=some x/\ev x=some t
 |[],ts,h=>by simp only[bO]at h;injection h with h;subst h;exact⟨rfl,fun j t h=>by simp at h⟩
 |x::l,ts,h=>by
  simp only[bO]at h
  split at h
  ·rename_i t ts' h1 h2
   injection h with h
   subst h
   obtain⟨g1,g2⟩:=fw h2
   refine⟨by simp[g1],fun j u hu=>?_⟩
   cases j with
   |zero=>simp at hu;subst hu;exact⟨x,rfl,h1⟩
   |succ j=>simp at hu;obtain⟨y,y1,y2⟩:=g2 j u hu;exact⟨y,by simpa using y1,y2⟩
  cases h
theorem nZ: ∀{ts:List TV} {cs:List AV},km ts=some cs->cs.length=ts.length/\ ∀(j:Nat) x,cs[j]?=some x->ts[j]?=some (.one x)/\x≠ .junk
 |[],cs,h=>by simp only[km]at h;injection h with h;subst h;exact⟨rfl,fun j x h=>by simp at h⟩
 |t::l,cs,h=>by
  cases t with
  |one x=>
   by_cases hx:x= .junk
   ·subst hx;simp only[km]at h;cases h
   have key:km (.one x::l)=(match km l with|some cs=>some (x::cs)|none=>none):=by
    cases x<;>first|rfl|exact absurd rfl hx
   rw[key]at h
   split at h
   ·rename_i cs' hcs
    injection h with h
    subst h
    obtain⟨g1,g2⟩:=nZ hcs
    refine⟨by simp[g1],fun j y hy=>?_⟩
    cases j with
    |zero=>simp at hy;subst hy;exact⟨rfl,hx⟩
    |succ j=>simp at hy;obtain⟨y1,y2⟩:=g2 j y hy;exact⟨by simpa using y1,y2⟩
   cases h
  |agg cs'=>simp only[km]at h;cases h
  |tup ts=>simp only[km]at h;cases h
  |fn f cs'=>simp only[km]at h;cases h
theorem JI {x:AV} {v:Value} (hx:x≠ .junk) (h:x.rel ρ H X w v):v.oneCell'=true:=by
 cases x with
 |p x=>exact ee.one h
 |sl a r off len=>
  obtain⟨o,_,_,h|⟨b,c,cap,_,h,_⟩⟩:=h
  ·rw[h.2.1];rfl
  rw[h];rfl
 |ptr a r i j=>obtain⟨o,b,c,_,_,_,h⟩:=h;rw[h];rfl
 |junk=>exact absurd rfl hx
theorem tj {ev:Operand->Option TV} {e:Operand->Value} (hev:iZ ρ H X w ev e)
  {o:Oper} {fn:Fn} {first captured:Array Operand} {T:TV} (ho:o.op= .makeFunc fn first captured) (h:aZ P ev H o.op=some T): ∃v,(execOp e o).run P w= .ok (.value v) w/\T.rel ρ H X w v:=by
 rw[ho]at h
 cases fn with
 |func f=>
  simp only[aZ]at h
  split at h
  ·rename_i hf
   obtain⟨cs,hcs,rfl⟩:=Option.map_eq_some_iff.1 h
   obtain⟨ts,hts,hc⟩:=Option.bind_eq_some_iff.1 hcs
   obtain⟨e1,e2⟩:=fw hts
   obtain⟨g1,g2⟩:=nZ hc
   refine⟨.func (.func f) #[] (captured.map e),?_,.agg (captured.map e),⟨captured.map e,rfl,?_,fun j x hx=>?_⟩,rfl⟩
   ·unfold execOp
    rw[ho]
    simp only
    refine fG ?_
    rw[Array.isEmpty_iff]at hf
    subst hf
    simp only[Instr.makeFunc,Array.map_empty,Sem.run_pure]
   ·simp at e1⊢;omega
   obtain⟨h1,h2⟩:=g2 j x hx
   obtain⟨y,y1,y2⟩:=e2 j _ h1
   have hr:=hev y _ y2
   refine⟨e y,?_,JI h2 hr,hr⟩
   rw[Array.getElem?_map];simp at y1;rw[y1];rfl
  cases h
 |_=>simp only[aZ]at h;cases h
theorem zm {ev:Operand->Option TV} {e:Operand->Value} (hev:iZ ρ H X w ev e) (hob: ∀(a r:Nat) (o:OObj),(H a)[r]?=some o->objRel ρ H X w a r o)
  {o:Oper} {T:TV} (h:aZ P ev H o.op=some T): ∃v,(execOp e o).run P w= .ok (.value v) w/\T.rel ρ H X w v:=by
 cases ho:o.op
 case load t x=>exact Cv hev hob ho h
 case indexAddr t x i=>exact rK hev hob ho h
 case fieldAddr t x f=>exact rJ hev ho h
 case field t x f=>exact zj hev ho h
 case index t x i=>exact zk hev ho h
 case slice t x lo hi mx=>exact zl hev hob ho h
 case build t parts=>exact zi hev ho h
 case nilCheck x=>exact tl hev ho h
 case makeFunc fn first captured=>exact tj hev ho h
 case call c=>
  obtain⟨callee,args,argTypes⟩:=c
  cases callee with
  |builtin b=>
   cases b
   case len=>exact Ej hev ho h
   all_goals (rw[ho]at h;simp only[aZ]at h;cases h)
  |value f=>rw[ho]at h;simp only[aZ]at h;cases h
  |invoke r m=>rw[ho]at h;simp only[aZ]at h;cases h
 all_goals (rw[ho]at h;simp only[aZ]at h;cases h)
end
end
end Go.Proofs.YtfgeomlagfomgaaGreatDoor
