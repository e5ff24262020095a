/-
  Part 5 of a proof (walks and plain facts).
-/
import Derived.Test.YtalmoejhjceflaaGreatR03
set_option linter.all false
set_option maxRecDepth 100000
set_option maxHeartbeats 64000000
namespace Go.Proofs.YtalmoejhjceflaaGreat
open Go.RowKit
variable {b:Value} {c:TypeId} {w:World} {e:TV}
def gL (P:Program) (t:TypeId):Option Nat:=(P.info? t).map (·.size)
def IA (P:Program) (t:TypeId):Option Nat:=(P.info? t).map (·.bytes)
def dw (P:Program) (t:TypeId):Option (List Value):=((P.info? t).bind (·.zero)).map (·.cells.toList)
def gd (P:Program) (t:TypeId):Option Bool:=(P.underlying t).map fun| .struct _=>true| .array _ _=>true|_=>false
def dn (P:Program) (t:TypeId):Option TypeId:=(P.underlying t).bind fun| .slice e=>some e|_=>none
def po (P:Program) (t:TypeId):Option (Nat×TypeId):=(P.underlying t).bind fun| .array n e=>some (n,e)|_=>none
def A9 (P:Program) (t:TypeId):Option IntKind:=(P.underlying t).bind fun| .int k=>some k|_=>none
def vQ (P:Program) (t:TypeId):Bool:=match P.underlying t with|some .bool=>true|_=>false
def cU (P:Program) (t:TypeId) (f:Nat):Option (Nat×TypeId):=(P.underlying t).bind fun| .struct b=>(b[f]?).map fun d=>(d.offset,d.type)|_=>none
abbrev AV.raw (v:Value):AV:= .p (.raw v)
abbrev TV.raw (v:Value):TV:= .one (.p (.raw v))
abbrev TV.undef:TV:= .tup []
def kM:Value->TV
 | .agg b=>if b.toList.all (·.oneCell')then .agg (b.toList.map AV.raw)else .one .junk
 |v=>if v.oneCell' then .raw v else .one .junk
def AS.ev (s:AS):Operand->Option TV
 | .tmp t=>s.tmps[t]?
 | .const v=>some (kM v)
 | .global g=>some (.raw (.pointer (some ⟨g,0,none⟩)))
 | .func f=>some (.raw (.func (.func f) #[] #[]))
def AS.put (s:AS) (d:Option Tmp) (t:TV):AS:=
 match d with
 |some d=>{s with tmps:=s.tmps.set d t}
 |none=>s
def kO (P:Program) (t:TypeId) (b:List AV):Option TV:=
 match gL P t,gd P t with
 |some n,some true=>if n<=b.length then some (.agg (b.take n))else none
 |some _,some false=>match b with
  |x::_=>some (.one x)
  |[]=>none
 |_,_=>none
def zj (e:Bool):BinOp->Value->Value->Option Value
 | .add,.int k a,.int c b=>if k=c then some (.int k (k.wrap (a+b)))else none
 | .sub,.int k a,.int c b=>if k=c then some (.int k (k.wrap (a-b)))else none
 | .mul,.int k a,.int c b=>if k=c then some (.int k (k.wrap (a*b)))else none
 | .quo,.int k a,.int c b=>if k=c/\b≠0 then some (.int k (k.wrap (a.tdiv b)))else none
 | .rem,.int k a,.int c b=>if k=c/\b≠0 then some (.int k (a.tmod b))else none
 | .shl,.int k a,.int _ b=>if 0<=b then some (.int k (k.wrap (a*2^(min b.toNat k.bits))))else none
 | .shr,.int k a,.int _ b=>if 0<=b then some (.int k (a.fdiv (2^(min b.toNat k.bits))))else none
 | .and,.int k a,.int c b=>if k=c then some (.int k (k.wrap ((BitVec.ofInt k.bits a&&&BitVec.ofInt k.bits b).toNat:Int)))else none
 | .or,.int k a,.int c b=>if k=c then some (.int k (k.wrap ((BitVec.ofInt k.bits a|||BitVec.ofInt k.bits b).toNat:Int)))else none
 | .xor,.int k a,.int c b=>if k=c then some (.int k (k.wrap ((BitVec.ofInt k.bits a^^^BitVec.ofInt k.bits b).toNat:Int)))else none
 | .andNot,.int k a,.int c b=>if k=c then some (.int k (k.wrap ((BitVec.ofInt k.bits a&&& ~~~BitVec.ofInt k.bits b).toNat:Int)))else none
 | .eql,.int k a,.int c b=>if k=c then some (.bool (decide (a=b)))else none
 | .neq,.int k a,.int c b=>if k=c then some (.bool (!decide (a=b)))else none
 | .lss,.int k a,.int c b=>if k=c then some (.bool (decide (a<b)))else none
 | .leq,.int k a,.int c b=>if k=c then some (.bool (decide (a<=b)))else none
 | .gtr,.int k a,.int c b=>if k=c then some (.bool (decide (b<a)))else none
 | .geq,.int k a,.int c b=>if k=c then some (.bool (decide (b<=a)))else none
 | .eql,.bool a,.bool b=>if e=true then some (.bool (a==b))else none
 | .neq,.bool a,.bool b=>if e=true then some (.bool (!(a==b)))else none
 |_,_,_=>none
def FP (P:Program) (t:TypeId):Option Nat:=match po P t with
 |some (n,e)=>if A9 P e≠none/\gd P e=some false/\gL P e=some 1/\P.eqGuardType P.depth t=false then some n else none
 |none=>none
def N4:List AV->List AV->Option Bool
 |[],[]=>some true
 | .p (.raw (.int k a))::f,.p (.raw (.int e b))::g=>match N4 f g with
  |some c=>if k=e then some (decide (a=b)&&c)else none
  |none=>none
 |_,_=>none
def Ds (P:Program) (op:BinOp) (t:TypeId) (c e:List AV):Option TV:=match FP P t,N4 c e,op with
 |some n,some b,.eql=>if c.length=n then some (.raw (.bool b))else none
 |some n,some b,.neq=>if c.length=n then some (.raw (.bool !b))else none
 |_,_,_=>none
def KW:UnOp->Value->Option Value
 | .neg,.int k n=>some (.int k (k.wrap (0-n)))
 | .not,.bool b=>some (.bool !b)
 |_,_=>none
def Gv:Operand->Bool
 | .const (.slice none _ _)=>true
 |_=>false
def wS:TV->Option Bool
 | .one (.p (.raw (.slice none _ _)))=>some true
 | .one (.p (.sl (_::_)))=>some false
 |_=>none
def zI (P:Program) (op:BinOp) (t:TypeId) (x y:Option TV):Option TV:=match dn P t,x.bind wS,y.bind wS,op with
 |some _,some b,some true,.eql=>some (.raw (.bool b))
 |some _,some b,some true,.neq=>some (.raw (.bool !b))
 |_,_,_,_=>none
def Rz (f:Int->Int->Int):List (Option TV)->Option TV
 |[some (.one (.p (.raw (.int k a)))),some (.one (.p (.raw (.int _ b))))]=>some (.raw (.int k (f a b)))
 |_=>none
def YV (ev:Operand->Option TV) (c:Call):Option TV:=match c.callee with
 | .builtin .max=>Rz (fun a b=>if b>a then b else a) (c.args.toList.map ev)
 | .builtin .min=>Rz (fun a b=>if b<a then b else a) (c.args.toList.map ev)
 |_=>none
def WM:Callee->Bool
 | .builtin .max| .builtin .min=>true
 |_=>false
def jE (P:Program) (ev:Operand->Option TV):Op->Option TV
 | .move x=>ev x
 | .assign x=>ev x
 | .pick c a b=>match ev c with
  |some (.one (.p (.raw (.bool true))))=>ev a
  |some (.one (.p (.raw (.bool false))))=>ev b
  |_=>none
 | .binOp op t x y _=>if Gv y=true then zI P op t (ev x) (ev y)else match ev x,ev y with
  |some (.one (.p (.raw a))),some (.one (.p (.raw b)))=>(zj (vQ P t) op a b).map TV.raw
  |some (.agg g),some (.agg h)=>Ds P op t g h
  |_,_=>none
 | .unOp op _ x=>match ev x with
  |some (.one (.p (.raw a)))=>(KW op a).map TV.raw
  |_=>none
 | .convert src dst x=>match ev x,P.underlying src,A9 P dst with
  |some (.one (.p (.raw (.int _ n)))),some _,some k=>some (.raw (.int k (k.wrap n)))
  |_,_,_=>none
 | .extract t i=>match ev t with
  |some (.tup f)=>match f[i]? with
   |some (true,e)=>some (.agg e)
   |some (false,[x])=>some (.one x)
   |_=>none
  |_=>none
 | .call c=>YV ev c
 |_=>none
def oQ:Op->Bool
 | .call c=>WM c.callee
 | .move _| .assign _| .pick ..| .binOp ..| .unOp ..| .convert ..| .extract ..=>true
 |_=>false
def zD (z:Int):Option Nat:=if 0<=z then some z.toNat else none
def d7 (ev:Operand->Option TV):Option Operand->Nat->Option Nat
 |none,d=>some d
 |some x,_=>match ev x with
  |some (.one (.p (.raw (.int _ n))))=>zD n
  |_=>none
def cellsOf:TV->Option (List AV)
 | .one (.p x)=>some [.p x]
 | .one (.sl a r b len)=>some [.sl a r b len]
 | .agg c=>some c
 |_=>none
def gA (P:Program) (t:TypeId):Option (List (Nat×Nat)):=(P.underlying t).bind fun| .struct b=>b.toList.mapM (fun f=>(P.info? f.type).map fun i=>(f.offset,i.size))| .array _ e=>(P.info? e).map fun _=>[]|_=>none
def j6 (e:List (Nat×Nat)) (ev:Operand->Option TV):List AV->List (Nat×Operand)->Option (List AV)
 |cs,[]=>some cs
 |cs,(f,x)::c=>match e[f]?,(ev x).bind cellsOf with
  |some (b,n),some g=>if g.length=n/\b+n<=cs.length then j6 e ev (cs.take b++g++cs.drop (b+n)) c else none
  |_,_=>none
def fA (ev:Operand->Option TV):List Operand->Option (List TV)
 |[]=>some []
 |x::l=>match ev x,fA ev l with
  |some t,some b=>some (t::b)
  |_,_=>none
def iT:List TV->Option (List AV)
 |[]=>some []
 | .one .junk::_=>none
 | .one x::l=>match iT l with
  |some b=>some (x::b)
  |none=>none
 |_::_=>none
def k9 (a:Nat):List AV->Option (List (Nat×Nat×Nat))
 |[]=>some []
 | .ptr b r i j::l=>if b=a then(k9 a l).map ((r,i,j):: ·)else none
 |_=>none
def FU:Option TV->Option (FuncId×List TV)
 |some (.fn f c)=>some (f,c.map TV.one)
 |some (.one (.fn f a e))=>some (f,e.map fun q=>TV.one (.ptr a q.1 q.2.1 q.2.2))
 |some (.one (.p (.raw (.func (.func f) first b))))=>if first.isEmpty&&b.isEmpty then some (f,[])else none
 |_=>none
def bT (P:Program) (ev:Operand->Option TV) (H:OH):Op->Option TV
 | .load t a=>match ev a with
  |some (.one (.p (.ptr s)))=>kO P t (s.map AV.p)
  |some (.one (.ptr a r i j))=>match(H a)[r]? with
   |some o=>match o.elems[i]? with
    |some e=>kO P t (e.drop j)
    |none=>none
   |none=>none
  |_=>none
 | .indexAddr t x A=>match ev A with
  |some (.one (.p (.raw (.int _ n))))=>match zD n with
   |none=>none
   |some i=>match dn P t,ev x with
    |some e,some (.one (.p (.sl u)))=>match u[i]? with
     |some c=>if gL P e=some c.length then some (.one (.p (.ptr c)))else none
     |none=>none
    |some e,some (.one (.sl a r g len))=>match(H a)[r]? with
     |some o=>if gL P e=some o.es/\i<len then some (.one (.ptr a r (g+i) 0))else none
     |none=>none
    |none,some (.one (.p (.ptr s)))=>match po P t with
     |some (n,e)=>match gL P e with
      |some sz=>if i<n then some (.one (.p (.ptr (s.drop (i*sz)))))else none
      |none=>none
     |none=>none
    |none,some (.one (.ptr a r k j))=>match po P t with
     |some (n,e)=>match gL P e with
      |some sz=>if i<n then some (.one (.ptr a r k (j+i*sz)))else none
      |none=>none
     |none=>none
    |none,some (.one (.p (.raw (.pointer (some ⟨b,g,none⟩)))))=>match po P t with
     |some (n,e)=>match gL P e with
      |some sz=>if i<n then some (.one (.p (.raw (.pointer (some ⟨b,g+i*sz,none⟩)))))else none
      |none=>none
     |none=>none
    |_,_=>none
  |_=>none
 | .fieldAddr t x f=>match cU P t f,ev x with
  |some (g,v),some (.one (.p (.ptr s)))=>match gL P v with
   |some (_+1)=>some (.one (.p (.ptr (s.drop g))))
   |_=>none
  |some (g,v),some (.one (.ptr a r i j))=>match gL P v with
   |some (_+1)=>some (.one (.ptr a r i (j+g)))
   |_=>none
  |_,_=>none
 | .field t x f=>match cU P t f,ev x with
  |some (g,v),some (.agg s)=>kO P v (s.drop g)
  |_,_=>none
 | .index t x A=>match ev A with
  |some (.one (.p (.raw (.int _ n))))=>match zD n with
   |none=>none
   |some i=>match po P t,ev x with
    |some (m,e),some (.agg s)=>match gL P e with
     |some sz=>if i<m then kO P e (s.drop (i*sz))else none
     |none=>none
    |_,_=>none
  |_=>none
 | .slice t x (some y) (some w) (some B)=>match dn P t,ev x with
  |some e,some (.one (.sl a r g len))=>match d7 ev (some y) 0,d7 ev (some w) 0,d7 ev (some B) 0,(H a)[r]? with
   |some l,some h,some m,some o=>if gL P e=some o.es/\l<h/\h<=m/\m<=len/\5000<=a then some (.one (.sl a r (g+l) (h-l)))else none
   |_,_,_,_=>none
  |_,_=>none
 | .slice t x y w none=>match dn P t,ev x with
  |some e,some (.one (.p (.sl u)))=>match d7 ev y 0,d7 ev w u.length,gL P e with
   |some l,some h,some n=>if l<=h/\h<=u.length/\ ∀c∈u,c.length=n then some (.one (.p (.sl ((u.take h).drop l))))else none
   |_,_,_=>none
  |some e,some (.one (.sl a r g len))=>match d7 ev y 0,d7 ev w len,(H a)[r]? with
   |some l,some h,some o=>if gL P e=some o.es/\l<h/\h<=len then some (.one (.sl a r (g+l) (h-l)))else if gL P e=some o.es/\l=h/\h<=len then some (.one (.p (.sl [])))else none
   |_,_,_=>none
  |_,_=>none
 | .build t parts=>match dw P t,gA P t with
  |some z,some C=>if z.all (·.oneCell')then(j6 C ev (z.map AV.raw) parts.toList).map TV.agg else none
  |_,_=>none
 | .nilCheck x=>match ev x with
  |some (.one (.p (.ptr s)))=>some (.one (.p (.ptr s)))
  |some (.one (.ptr a r i j))=>some (.one (.ptr a r i j))
  |_=>none
 | .makeFunc (.func f) first q=>if first.isEmpty then((fA ev q.toList).bind iT).map (TV.fn f)else none
 | .call {callee:= .builtin .len,args,argTypes}=>match args.toList,argTypes.toList with
  |[x],[t]=>match dn P t,ev x with
   |some _,some (.one (.p (.sl u)))=>some (.raw (.int .i64 u.length))
   |some _,some (.one (.sl _ _ _ len))=>some (.raw (.int .i64 len))
   |some _,some (.one (.p (.raw (.slice _ n _))))=>some (.raw (.int .i64 n))
   |_,_=>none
  |_,_=>none
 |_=>none
def yf:Op->Bool
 | .load ..| .indexAddr ..| .fieldAddr ..| .field ..| .index ..| .slice ..| .build ..| .nilCheck ..| .makeFunc ..| .call {callee:= .builtin .len,..}=>true
 |_=>false
def isPure:AV->Bool
 | .p _=>true
 |_=>false
def uq:AV->PV
 | .p x=>x
 |_=> .raw undef
def cb (d:Nat):AV->AV
 | .sl _ r b len=> .sl d r b len
 | .ptr _ r i j=> .ptr d r i j
 | .fn f _ c=>if c.isEmpty then .junk else .fn f d c
 |x=>x
theorem oC (d:Nat):oR (cb d):=fun _ _ c=>by
 cases c with
 |nil=>exact .inl rfl
 |cons q l=>exact .inr ⟨d,q::l,rfl,rfl,fun _ q b=>⟨q,b,rfl⟩⟩
theorem dB (d:Nat) (x:AV):bs d (cb d x):=by
 cases x with
 |fn f a b=>cases b with
  |nil=>trivial
  |cons q l=>exact⟨rfl,by simp⟩
 |_=>first|rfl|trivial
theorem Kv {d:Nat} {m b:Rho} {H e:OH} {X g:Nat->Prop} {j:World} (h: ∀x v,DY x=true->bs 0 x->AV.rel m H X w (cb d x) v->AV.rel b e g j x v) (x:AV) (v:Value) (c:bs 0 x) (k:AV.rel m H X w (cb d x) v):AV.rel b e g j x v:=by
 cases x with
 |fn f a y=>
  cases y with
  |nil=>exact absurd rfl c.2
  |cons B l=>
  obtain⟨vs,p,r,o,s⟩:=k;refine⟨vs,p,r,o,fun n q t=>?_⟩;obtain⟨u,z,A⟩:=s n q t;exact⟨u,z,h (.ptr a q.1 q.2.1 q.2.2) u rfl c.1 A⟩
 |_=>exact h _ v rfl c k
def renTV (d:Nat):TV->TV
 | .one x=> .one (cb d x)
 | .agg b=> .agg (b.map (cb d))
 | .tup c=> .tup (c.map fun t=>(t.1,t.2.map (cb d)))
 | .fn f b=> .fn f (b.map (cb d))
def renO (d:Nat) (o:OObj):OObj:={o with elems:=o.elems.map (List.map (cb d))}
def famH (d:Nat) (F:List OObj):OH:=fun a=>if a=d then F else[]
def ax (H:OH) (d:Nat) (F:List OObj):OH:=fun a=>if a=d then F else H a
def aO (k:Nat->Nat->Bool):AV->AV
 | .sl a r b len=>if k a r then .junk else .sl a r b len
 | .ptr a r i j=>if k a r then .junk else .ptr a r i j
 | .fn f a c=>if c.any (fun q=>k a q.1)then .junk else .fn f a c
 |x=>x
theorem pH (k:Nat->Nat->Bool):oR (aO k):=fun f a b=>by
 grind [aO]
def aP (k:Nat->Nat->Bool):TV->TV
 | .one x=> .one (aO k x)
 | .agg b=> .agg (b.map (aO k))
 | .tup c=> .tup (c.map fun t=>(t.1,t.2.map (aO k)))
 | .fn f b=> .fn f (b.map (aO k))
def lL (k:Nat->Nat->Bool) (o:OObj):OObj:={o with elems:=o.elems.map (List.map (aO k))}
structure CallRes where
 fam:List OObj
 r:TV
def callable (P:Program) (f:FuncId):Bool:=match P.funcs[f]? with
 | some fn => fn.body.isSome && !(fn.name == "runtime.NumGoroutine")
 |none=>false
def CallC (P:Program) (f:FuncId) (args:List TV) (res:CallRes):Prop:=
 callable P f=true/\ ∀(X:Nat->Prop) (w:World) (vs:Array Value),(∀b,X b->b<w.heap.size)->vs.size=args.length->
  (∀(j:Nat) t,args[j]?=some t-> ∃v:Value,vs[j]?=some v/\t.rel (fun _ _=>none) (fun _=>[]) X w v)->
  Calls P f vs w fun e g=> ∃v,e= .returned v/\ ∃c:Rho,
   Inv w (fun _=>False) X (famH 0 res.fam) c g/\res.r.rel c (famH 0 res.fam) (Xo X c (famH 0 res.fam)) g v
def ri:AV->Bool
 | .p (.raw _)=>true
 |_=>false
def oW:TV->Bool
 | .one x=>ri x
 | .agg b=>b.all ri
 | .tup c=>c.all fun t=>t.2.all ri
 | .fn _ b=>b.all ri
def CallRes.plain (res:CallRes):Bool:=res.fam.isEmpty&&oW res.r
def fm:AV->Bool
 | .sl ..=>false
 | .ptr ..=>false
 | .fn ..=>false
 |_=>true
def noRefTV:TV->Bool
 | .one x=>fm x
 | .agg b=>b.all fm
 | .tup c=>c.all fun t=>t.2.all fm
 | .fn _ b=>b.all fm
structure df (P:Program) where
 i:Nat
 f:FuncId
 args:List TV
 res:CallRes
structure ao (P:Program) where
 i:Nat
 f:FuncId
 args:List TV
 res:CallRes
 h:CallC P f args res
def ao.a {P:Program} (b:ao P):df P:=⟨b.i,b.f,b.args,b.res⟩
def gV (P:Program) (b:List (df P)):Prop:= ∀c∈b,CallC P c.f c.args c.res
theorem ao.ok {P:Program} (b:List (ao P)):gV P (b.map ao.a):=fun e c=>by
 obtain⟨x,_,rfl⟩:=aau.1 c;exact x.h
def j9 (H:OH):TV->TV
 | .one (.sl a r b len)=>match(H a)[r]? with
  |some o=> .one (.p (.sl ((((o.elems.take (b+len)).drop b)).map (List.map uq))))
  |none=> .one .junk
 | .one (.p (.raw (.slice none 0 0)))=> .one (.p (.sl []))
 |t=>t
def g9 (own:Bool) (H:OH):TV->Bool
 | .one (.sl a r _ _)=>own&&match(H a)[r]? with
  |some o=>o.elems.all fun e=>e.all isPure
  |none=>false
 | .one (.p _)=>true
 | .agg b=>b.all isPure
 | .fn _ b=>b.all isPure
 |_=>false
def gH (H:OH):TV->Option (List (List AV))
 | .one (.p (.sl c))=>some (c.map (List.map AV.p))
 | .one (.p (.raw (.slice none 0 0)))=>some []
 | .one (.sl a r b len)=>match(H a)[r]? with
  |some o=>if o.elems.all fun e=>e.all isPure then some ((o.elems.take (b+len)).drop b)else none
  |none=>none
 |_=>none
def pE (ev:Operand->Option TV) (n:Nat):Nat->List (Nat×Operand)->Option (List (List AV))
 |_,[]=>some []
 |i,(k,x)::b=>match(ev x).bind cellsOf,pE ev n (i+1) b with
  |some c,some l=>if k=i/\c.length=n/\c.all isPure then some (c::l)else none
  |_,_=>none
open Classical in
noncomputable def cn (P:Program) (j:List (df P)) (v:List Nat) (i d:Nat) (ev:Operand->Option TV) (H:OH):Op->Option (TV×List OObj)
 | .box e x=>match(ev x).bind cellsOf with
  |some u=>if u.all isPure/\0<u.length then some (.one (.ptr d 0 0 0),[⟨e,u.length,[u]⟩])else none
  |none=>none
 | .alloc e=>match dw P e with
  |some z=>if z.all (·.oneCell')/\0<z.length then some (.one (.ptr d 0 0 0),[⟨e,z.length,[z.map AV.raw]⟩])else none
  |none=>none
 | .makeSlice t l c=>match ev l,ev c,dn P t with
  |some (.one (.p (.raw (.int _ n)))),some (.one (.p (.raw (.int _ m)))),some e=>match dw P e,gL P e,IA P e with
   |some z,some sz,some o=>if 0<=n/\n<=m/\m<=9223372036854775807/\(o:Int)*m<=281474976710656/\z.length=sz/\0<sz/\z.all (·.oneCell')then
     some (.one (.sl d 0 0 n.toNat),[⟨e,sz,List.replicate n.toNat (z.map AV.raw)⟩])else none
   |_,_,_=>none
  |_,_,_=>none
 | .buildSlice t n parts=>match dn P t with
  |some e=>match dw P e,gL P e with
   |some z,some sz=>match pE ev sz 0 parts.toList with
    |some l=>if l.length=n/\n*sz<=16777216/\z.length=sz/\0<sz then
      if v.contains d then some (.one (.sl d 0 0 n),[⟨e,sz,l⟩])else some (.one (.p (.sl (l.map (List.map uq)))),[])else none
    |none=>none
   |_,_=>none
  |none=>none
 | .call c=>match c.callee with
  | .value (.func f)=>match j.find? (·.i==i),fA ev c.args.toList with
   |some g,some q=>if g.f=f/\q.map (j9 H)=g.args/\q.all (g9 g.res.plain H)/\(!g.res.fam.isEmpty||noRefTV g.res.r)then some (renTV d g.res.r,g.res.fam.map (renO d))else none
   |_,_=>none
  | .value (.tmp k)=>match FU (ev (.tmp k)),j.find? (·.i==i),fA ev c.args.toList with
   |some (f,h),some g,some q=>if g.f=f/\(q++h).map (j9 H)=g.args/\(q++h).all (g9 g.res.plain H)/\(!g.res.fam.isEmpty||noRefTV g.res.r)then some (renTV d g.res.r,g.res.fam.map (renO d))else none
   |_,_,_=>none
  | .builtin .append=>match c.args.toList,c.argTypes.toList with
   |[s,x],[t,w]=>match ev s,(ev x).bind (gH H),dn P t with
    |some (.one (.p (.raw (.slice none 0 0)))),some b,some e=>match dw P e,gL P e,IA P e with
     |some z,some sz,some o=>if t=w/\b.length*o<=140737488355328/\b.length<=9223372036854775807/\z.length=sz/\0<sz/\(∀e∈b,e.length=sz)then
       some (.one (.sl d 0 0 b.length),[⟨e,sz,b⟩])else none
     |_,_,_=>none
    |_,_,_=>none
   |_,_=>none
  |_=>none
 |_=>none
def putCells (e:List AV) (j:Nat) (b:List AV):List AV:=e.take j++b++e.drop (j+b.length)
def Tk (a:Nat):AV->Bool
 | .p _=>true
 | .sl b _ _ _=>b==a
 |_=>false
structure Fm where
 t:TV
 H:OH
 k:Nat->Nat->Bool
def fP (P:Program) (ev:Operand->Option TV) (H:OH):Op->Option Fm
 | .store t a x=>match ev a,gL P t with
  |some (.one (.ptr a r i j)),some n=>match(H a)[r]? with
   |some o=>match o.elems[i]? with
    |some e=>match ev x with
     |some (.one (.sl h u g len))=>
      if h=a then
       if n=1/\j<e.length then some ⟨.undef,ax H a ((H a).set r {o with elems:=o.elems.set i (putCells e j [.sl h u g len])}),fun _ _=>false⟩else none
      else match H h with
       |[p]=>if h<=4999/\u=0/\g=0/\len=p.elems.length/\n=1/\j<e.length/\p.elems.all (fun e=>e.all isPure)then
         some ⟨.undef,ax (ax H a ((H a).set r {o with elems:=o.elems.set i (putCells e j [.sl a (H a).length 0 len])}++[p])) h [],fun x _=>x==h⟩else none
       |_=>none
     |some (.fn f l)=>match k9 a l with
      |some q=>if n=1/\j<e.length/\0<q.length then some ⟨.undef,ax H a ((H a).set r {o with elems:=o.elems.set i (putCells e j [.fn f a q])}),fun _ _=>false⟩else none
      |none=>none
     |some v=>match cellsOf v with
      |some l=>if l.length=n/\j+n<=e.length/\l.all (Tk a)then
        some ⟨.undef,ax H a ((H a).set r {o with elems:=o.elems.set i (putCells e j l)}),fun _ _=>false⟩else none
      |none=>none
     |none=>none
    |none=>none
   |none=>none
  |_,_=>none
 | .call c=>match c.callee,c.args.toList,c.argTypes.toList with
  | .builtin .append,[s,x],[t,w]=>match ev s,(ev x).bind (gH H),dn P t with
   |some (.one (.sl a r g len)),some b,some e=>match(H a)[r]?,dw P e,gL P e,IA P e with
    |some o,some z,some sz,some m=>if a<=4999/\t=w/\o.ty=e/\o.es=sz/\o.elems.all (fun e=>e.all isPure)/\g=0/\len=o.elems.length/\(len+b.length)*m<=140737488355328/\len+b.length<=9223372036854775807/\z.length=sz/\(∀e∈b,e.length=sz)then
      some ⟨.one (.sl a r 0 (len+b.length)),ax H a (((H a).map (lL fun x y=>x==a&&y==r)).set r {o with elems:=o.elems++b}),fun x y=>x==a&&y==r⟩else none
    |_,_,_,_=>none
   |_,_,_=>none
  |_,_,_=>none
 |_=>none
noncomputable def d6 (P:Program) (b:List (df P)) (c:List Nat) (i:Nat) (o:Oper) (s:AS):Option AS:=
 if oQ o.op then(jE P s.ev o.op).map (s.put o.dst)
 else if yf o.op then(bT P s.ev s.H o.op).map (s.put o.dst)
 else match fP P s.ev s.H o.op with
  |some q=>some (AS.put ⟨s.tmps.map (aP q.k),q.H⟩ o.dst q.t)
  |none=>match o.dst with
   |none=>none
   |some d=>match cn P b c i d s.ev s.H o.op with
    |some (t,[])=>some (s.put (some d) t)
    |some (t,F)=>match s.H d with
     |[]=>some (AS.put ⟨s.tmps,ax s.H d F⟩ (some d) t)
     |_=>none
    |none=>none
noncomputable def aU (P:Program) (c:List (df P)) (h:List Nat) (f:Array Oper) (i:Nat) (o:Oper) (s:AS):Option AS:=
 match o.guard with
 |none=>d6 P c h i o s
 |some (g,e)=>match(f[g]?).bind (·.dst)with
  |none=>none
  |some d=>match s.tmps[d]? with
   |some (.one (.p (.raw (.bool b))))=>if b=e then d6 P c h i o s else some (s.put o.dst .undef)
   |some (.tup [])=>some (s.put o.dst .undef)
   |_=>none
noncomputable def ib (P:Program) (b:List (df P)) (f:List Nat) (c:Array Oper):List (Oper×Nat)->AS->Option AS
 |[],s=>some s
 |(o,i)::e,s=>match aU P b f c i o s with
  |some g=>ib P b f c e g
  |none=>none
section
section
variable {P:Program} {ρ:Rho} {H:OH} {X:Nat->Prop} {w:World}
def il (ρ:Rho) (H:OH) (X:Nat->Prop) (w:World) (ev:Operand->Option TV) (e:Operand->Value):Prop:= ∀x t,ev x=some t->TV.rel ρ H X w t (e x)
theorem aX {a v:Value} (h:TV.rel ρ H X w (.raw a) v):v=a/\a.oneCell'=true:=by
 cases h with
 |raw v h=>grind
theorem b7 {a:Value} (h:a.oneCell'=true):TV.rel ρ H X w (.raw a) a:=bM.raw a h
theorem DZ (v:Value):TV.rel ρ H X w (kM v) v:=by
 unfold kM;split
 ·rename_i c;split
  ·rename_i h;simp only[aat]at h;refine⟨c,rfl,by simp,fun j x b=>?_⟩;rw[aam]at b;cases f:c.toList[j]? with
   |none=>grind
   |some u=>
    rw[f]at b;simp at b;subst b;have e:u.oneCell'=true:=h u (aai f);exact⟨u,by grind,e,bM.raw u e⟩
  exact trivial
 split
 ·exact bM.raw _ (by assumption)
 exact trivial
theorem Dw {op:BinOp} {a v:Value} (h:zj (vQ P c) op a b=some v) (x y:Operand):
  (do eqGuard op c x y a b;binOp op c a b:Sem Value).run P w= .ok v w/\v.oneCell'=true:=by
 unfold zj at h;split at h
 case h_1|h_2|h_3|h_8|h_9|h_10|h_11|h_12|h_13|h_14|h_15|h_16|h_17=>
  split at h
  ·rename_i e;subst e;injection h with h
   subst h;refine⟨?_,rfl⟩;show(if _≠_ then _ else _:Sem Value).run P w=_;rw[if_neg (fun h=>h rfl)];rfl
  cases h
 case h_4|h_5=>
  split at h
  ·rename_i e;obtain⟨e,f⟩:=e;subst e;injection h with h
   subst h;refine⟨?_,rfl⟩;show(if _≠_ then _ else(if _=_ then _ else _):Sem Value).run P w=_;simp_all
  cases h
 case h_6|h_7=>
  split at h
  ·rename_i f;injection h with h
   subst h;refine⟨?_,rfl⟩;show(if _<_ then _ else _:Sem Value).run P w=_;simp_all[if_neg]
  cases h
 case h_18|h_19=>
  split at h
  ·rename_i f;injection h with h
   subst h;have g:P.underlying c=some .bool:=by
    grind [vQ]
   refine⟨?_,rfl⟩
   first
    |exact run_eql_bool w c _ _ g
    |exact run_neq_bool w c _ _ g
  cases h
 grind
theorem Gm {op:UnOp} {a:Value} (h:KW op a=some b):(Op.unary op a).run P w= .ok b w/\b.oneCell'=true:=by
 unfold KW at h;split at h
 ·injection h with h;subst h;exact⟨rfl,rfl⟩
 ·injection h with h;subst h;exact⟨rfl,rfl⟩
 cases h
theorem eh {s:Sem Value} {c:World} (h:s.run P w= .ok b c):(do pure (Next.value (<- s)):Sem Next).run P w= .ok (.value b) c:=by
 simp_all
theorem Vh {s:Sem Unit} {b:World} (h:s.run P w= .ok () b):(do s;pure Next.skip:Sem Next).run P w= .ok .skip b:=by
 simp_all
theorem iR {e:TypeId} {n:Nat} (h:po P c=some (n,e)):P.underlying c=some (.array n e):=by
 unfold po at h;cases b:P.underlying c with
 |none=>grind
 |some d=>grind
theorem mT {d k0:Nat} {e:TypeId} {C:IntKind} (r:P.underlying e=some (.int C)) (n:(isAgg e).run P w= .ok false w) {vs us:Array Value}: ∀(f l:List AV) (m:Nat) (b:Bool),N4 f l=some b->
  (∀(j:Nat) x,f[j]?=some x-> ∃u:Value,vs[m+j]?=some u/\x.rel ρ H X w u)->(∀(j:Nat) x,l[j]?=some x-> ∃u:Value,us[m+j]?=some u/\x.rel ρ H X w u)->
  (Op.eqItems (d+1) e 1 vs us (List.range' m f.length)).run P w= .ok b w
 |[],[],m,b,h,_,_=>by
  simp_all[N4,Op.eqItems]
 | .p (.raw (.int k a))::f,.p (.raw (.int L g))::l,m,b,h,o,q=>by
  simp only[N4]at h;split at h
  ·rename_i c z;split at h
   ·rename_i A;subst A;injection h with h
    subst h;obtain⟨u,M,I⟩:=o 0 _ rfl;obtain⟨G,N,J⟩:=q 0 _ rfl;have s:=(aX (H:=H) (ρ:=ρ) (X:=X) (w:=w) (v:=u) I).1;have t:=(aX (H:=H) (ρ:=ρ) (X:=X) (w:=w) (v:=G) J).1;subst s t;have K:=mT (d:=d) (k0:=k0) r n (vs:=vs) (us:=us) f l (m+1) c z (fun j x B=>by
     have:=o (j+1) x (by grind);grind) (fun j x B=>by
     have:=q (j+1) x (by grind);grind)
    simp only[aaP,abb,Op.eqItems,aax];have D:(part e vs (m*1)).run P w= .ok (.int k a) w:=by
     simp_all[part]
    have E:(part e us (m*1)).run P w= .ok (.int k g) w:=by
     simp_all[part]
    rw[D,aan,E,aan];have F:(Op.equalIn (d+1) e (.int k a) (.int k g)).run P w= .ok (a==g) w:=by
     simp[Op.equalIn,aax,run_underlying r]
    rw[F,aan];by_cases y:a=g
    ·grind
    simp_all
   cases h
  cases h
 |[],_::_,_,_,h,_,_=>by simp[N4]at h
 | .p (.raw (.int _ _))::_,[],_,_,h,_,_=>by simp[N4]at h
theorem Dt {op:BinOp} {s z:List AV} (h:Ds P op c s z=some e) {vs:Value} (S:bH ρ H X w s vs) (C:bH ρ H X w z b) (x y:Operand):
  ∃v,(do eqGuard op c x y vs b;binOp op c vs b:Sem Value).run P w= .ok v w/\e.rel ρ H X w v:=by
 obtain⟨vs,rfl,v1,U⟩:=S;obtain⟨b,rfl,Z,u2⟩:=C;have key: ∀n f,FP P c=some n->N4 s z=some f->s.length=n->(Op.equalIn 10000 c (.agg vs) (.agg b)).run P w= .ok f w/\P.eqGuardType P.depth c=false:=fun n f l o p=>by
  unfold FP at l;split at l
  ·rename_i m g M;split at l
   ·rename_i N;obtain⟨I,V,J,K⟩:=N;injection l with l
    subst l;refine⟨?_,K⟩;obtain⟨G,Q⟩: ∃G,P.underlying g=some (.int G):=by
     unfold A9 at I;cases C:P.underlying g with
     |none=>grind
     |some d=>grind
    obtain⟨i,O,R⟩: ∃i,P.info? g=some i/\i.size=1:=by
     unfold gL at J;simp_all
    have A:(isAgg g).run P w= .ok false w:=by
     simp_all[isAgg,run_underlying]
    rw[show(10000:Nat)=9999+1 from rfl,run_equalIn_array w 9999 vs b (iR M) O];have B:P.cellsOf g=1:=by grind [Program.cellsOf]
    rw[B,aaX,<- p];exact mT (d:=9998) (k0:=0) Q A s z 0 f o (fun j x D=>by obtain⟨u,W,_,L⟩:=U j x D;exact⟨u,by grind,L⟩) (fun j x D=>by grind)
   cases l
  cases l
 have guard: ∀q,P.eqGuardType P.depth c=false->(eqGuard q c x y (.agg vs) (.agg b)).run P w= .ok () w:=fun q Y=>by
  simp_all[eqGuard]
 unfold Ds at h;split at h
 ·rename_i n f l o;split at h
  ·rename_i p;injection h with h
   subst h;obtain⟨E,F⟩:=key n f l o p;refine⟨.bool f,?_,b7 rfl⟩;grind [Sem.run_bind,Result.andThen_ok,run_eql_struct]
  cases h
 ·rename_i n f l o;split at h
  ·rename_i p;injection h with h
   subst h;obtain⟨E,F⟩:=key n f l o p;refine⟨.bool !f,?_,b7 rfl⟩;rw[aax,guard _ F,aan];show((do let r<- Op.equal c (.agg vs) (.agg b);pure (.bool !r):Sem Value)).run P w=_;rw[aax];have:(Op.equal c (.agg vs) (.agg b)).run P w= .ok f w:=E;simp_all
  cases h
 cases h
theorem wT {f:Bool} (h:wS e=some f) (g:e.rel ρ H X w b): ∃a n c,b= .slice a n c/\(f=true↔a=none):=by
 unfold wS at h;split at h
 ·injection h with h
  subst h;have:=(aX g).1;grind
 ·injection h with h
  subst h;have g:bM X w _ b:=g;cases g with
  |sl=>simp
 cases h
theorem DX {op:BinOp} {D E:Option TV} (h:zI P op c D E=some e) {u:Value} (K: ∀x,D=some x->x.rel ρ H X w b) (F: ∀x,E=some x->x.rel ρ H X w u) (x y:Operand):
  ∃r,(do eqGuard op c x y b u;binOp op c b u:Sem Value).run P w= .ok r w/\e.rel ρ H X w r:=by
 have key: ∀j f,dn P c=some j->D.bind wS=some f->E.bind wS=some true-> ∃a n g m k,b= .slice a n g/\u= .slice none m k/\(Op.equal c b u).run P w= .ok f w:=fun j f p o s=>by
  obtain⟨M,z,A⟩:=aaG.1 o;obtain⟨N,B,C⟩:=aaG.1 s;obtain⟨a,n,g,rfl,G⟩:=wT A (K _ z);obtain⟨L,m,k,rfl,l⟩:=wT C (F _ B);have l:=l.1 rfl;subst l;refine⟨a,n,g,m,k,rfl,rfl,?_⟩;have q:P.underlying c=some (.slice j):=by
   unfold dn at p;cases F:P.underlying c with
   |none=>grind
   |some d=>grind
  suffices I: ∀d,(Op.equalIn (d+1) c (.slice a n g) (.slice none m k)).run P w= .ok f w from I 9999
  intro d;cases a with
  |none=>
   rw[G.2 rfl];simp[Op.equalIn,aax,run_underlying q]
  |some a=>
   have:f=false:=by
    grind
   subst this;simp[Op.equalIn,aax,run_underlying q]
 unfold zI at h;split at h
 ·rename_i j f p o s;injection h with h
  subst h;obtain⟨a,n,g,m,k,rfl,rfl,J⟩:=key _ _ p o s;refine⟨.bool f,?_,b7 rfl⟩;rw[aax,show(eqGuard .eql c x y (.slice a n g) (.slice none m k)).run P w= .ok () w from rfl,aan];show((do let r<- Op.equal c (.slice a n g) (.slice none m k);pure (.bool r):Sem Value)).run P w=_;simp_all
 ·rename_i j f p o s;injection h with h
  subst h;obtain⟨a,n,g,m,k,rfl,rfl,J⟩:=key _ _ p o s;refine⟨.bool !f,?_,b7 rfl⟩;rw[aax,show(eqGuard .neq c x y (.slice a n g) (.slice none m k)).run P w= .ok () w from rfl,aan];show((do let r<- Op.equal c (.slice a n g) (.slice none m k);pure (.bool !r):Sem Value)).run P w=_;simp_all
 cases h
theorem lQ {f:Int->Int->Int} {l:List (Option TV)} (h:Rz f l=some e): ∃k c a b,l=[some (.one (.p (.raw (.int k a)))),some (.one (.p (.raw (.int c b))))]/\e= .raw (.int k (f a b)):=by
 unfold Rz at h;grind
theorem Bm {c e:Type} {f:c->e} {l:List c} {x y:e} (h:l.map f=[x,y]): ∃a b,l=[a,b]/\f a=x/\f b=y:=by
 match l,h with
 |[a,b],h=>grind
theorem wh {ev:Operand->Option TV} {f:Operand->Value} (g:il ρ H X w ev f) {o:Oper} (h:jE P ev o.op=some e):
  ∃v,(execOp f o).run P w= .ok (.value v) w/\e.rel ρ H X w v:=by
 unfold execOp;cases O:o.op<;>rw[O]at h<;>simp only[jE]at h<;>try cases h
 case call c=>
  obtain⟨callee,args,argTypes⟩:=c;unfold YV at h;split at h
  ·rename_i j;simp only at j;subst j;obtain⟨k,J,a,b,F,rfl⟩:=lQ h;obtain⟨x,y,l,p,r⟩:=Bm F;obtain⟨args⟩:=args;simp only at l;subst l;refine⟨_,?_,b7 rfl⟩;have A:=(aX (g x _ p)).1;have B:=(aX (g y _ r)).1;simp only[resolve,invoke,builtin,aax,abc,aan,ac7,aaI,aaY,A,B];rfl
  ·rename_i j;simp only at j;subst j;obtain⟨k,J,a,b,F,rfl⟩:=lQ h;obtain⟨x,y,l,p,r⟩:=Bm F;obtain⟨args⟩:=args;simp only at l;subst l;refine⟨_,?_,b7 rfl⟩;have A:=(aX (g x _ p)).1;have B:=(aX (g y _ r)).1;simp only[resolve,invoke,builtin,aax,abc,aan,ac7,aaI,aaY,A,B];rfl
  cases h
 case move x=>exact⟨_,rfl,g x e h⟩
 case assign x=>exact⟨_,rfl,g x e h⟩
 case pick c a b=>
  split at h
  ·rename_i j;have:=(aX (g c _ j)).1;refine⟨f a,?_,g a e h⟩;simp only[this];rfl
  ·rename_i j;have:=(aX (g c _ j)).1;refine⟨f b,?_,g b e h⟩;simp only[this];rfl
  cases h
 case binOp op ty x y yt=>
  split at h
  ·obtain⟨v,C,s⟩:=DX h (fun e G=>g x e G) (fun e G=>g y e G) x y;grind [eh]
  split at h
  ·rename_i a b m D;have p:=(aX (g x _ m)).1;have r:=(aX (g y _ D)).1;cases q:zj (vQ P ty) op a b with
   |none=>grind
   |some v=>
    rw[q]at h;simp at h;subst h;obtain⟨C,s⟩:=Dw (P:=P) (w:=w) q x y;refine⟨v,?_,b7 s⟩;grind [eh]
  ·rename_i W Y m D;obtain⟨v,C,s⟩:=Dt h (g x _ m) (g y _ D) x y;grind [eh]
  cases h
 case unOp op ty x=>
  split at h
  ·rename_i a m;have p:=(aX (g x _ m)).1;cases q:KW op a with
   |none=>grind
   |some v=>
    rw[q]at h;simp at h;subst h;obtain⟨C,s⟩:=Gm (P:=P) (w:=w) q;simp_all[b7]
  cases h
 case convert src dst x=>
  split at h
  ·rename_i k n U J m Q N;have p:=(aX (g x _ m)).1;injection h with h
   subst h;have M:P.underlying dst=some (.int J):=by
    unfold A9 at N;cases L:P.underlying dst with
    |none=>grind
    |some d=>grind
   refine⟨_,?_,b7 rfl⟩;simp only[p];refine eh ?_;unfold convert;rw[aax,run_underlying Q,aan,aax,run_underlying M,aan];rfl
  cases h
 case extract x i=>
  split at h
  ·rename_i V m;obtain⟨vs,S,R,K⟩:=g x _ m;split at h
   ·rename_i T E;injection h with h
    subst h;obtain⟨u,L,j⟩:=K i _ _ E;rcases j with⟨_,j⟩|⟨j,_⟩
    ·refine⟨u,?_,j⟩;simp_all[Instr.extract]
    cases j
   ·rename_i y E;injection h with h
    subst h;obtain⟨u,L,j⟩:=K i _ _ E;rcases j with⟨j,_⟩|⟨_,z,I,j⟩
    ·cases j
    injection I with I
    subst I;refine⟨u,?_,j⟩;simp_all[Instr.extract]
   cases h
  cases h
end
end
end Go.Proofs.YtalmoejhjceflaaGreat
