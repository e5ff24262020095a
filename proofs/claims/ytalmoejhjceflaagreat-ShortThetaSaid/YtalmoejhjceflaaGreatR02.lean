/-
  Part 3 of a proof (walks and plain facts).
-/
import Derived.Test.YtalmoejhjceflaaGreatR01
set_option linter.all false
set_option maxRecDepth 100000
set_option maxHeartbeats 64000000
namespace Go.Proofs.YtalmoejhjceflaaGreat
open Go.RowKit
variable {b c:TypeId} {e:Operand->Value} {n m:Nat} {f:Operand} {g:Option Operand} {h:Value} {j:TV} {l:List AV} {o:Oper} {w:World}
def ir (P:Program) (t:TypeId):Option Nat:=(P.info? t).map (·.size)
def IH (P:Program) (t:TypeId):Option Nat:=(P.info? t).map (·.bytes)
def dy (P:Program) (t:TypeId):Option (List Value):=((P.info? t).bind (·.zero)).map (·.cells.toList)
def gL (P:Program) (t:TypeId):Option Bool:=(P.underlying t).map fun| .struct _=>true| .array _ _=>true|_=>false
def dw (P:Program) (t:TypeId):Option TypeId:=(P.underlying t).bind fun| .slice e=>some e|_=>none
def pH (P:Program) (t:TypeId):Option (Nat×TypeId):=(P.underlying t).bind fun| .array n e=>some (n,e)|_=>none
def yQ (P:Program) (t:TypeId):Option IntKind:=(P.underlying t).bind fun| .int k=>some k|_=>none
def wF (P:Program) (t:TypeId):Bool:=match P.underlying t with|some .bool=>true|_=>false
def dc (P:Program) (t:TypeId) (f:Nat):Option (Nat×TypeId):=(P.underlying t).bind fun| .struct b=>(b[f]?).map fun d=>(d.offset,d.type)|_=>none
abbrev AV.raw (v:Value):AV:= .p (.raw v)
abbrev TV.raw (v:Value):TV:= .one (.p (.raw v))
abbrev TV.undef:TV:= .tup []
def oX:Value->TV
 | .agg b=>if b.toList.all (·.oneCell')then .agg (b.toList.map AV.raw)else .one .junk
 |v=>if v.oneCell' then .raw v else .one .junk
def AS.ev (s:AS):Operand->Option TV
 | .tmp t=>s.tmps[t]?
 | .const v=>some (oX v)
 | .global g=>some (.raw (.pointer (some ⟨g,0,none⟩)))
 | .func f=>some (.raw (.func (.func f) #[] #[]))
def AS.put (s:AS) (d:Option Tmp) (t:TV):AS:=
 match d with
 |some d=>{s with tmps:=s.tmps.set d t}
 |none=>s
def nw (P:Program) (t:TypeId) (b:List AV):Option TV:=
 match ir P t,gL P t with
 |some n,some true=>if n<=b.length then some (.agg (b.take n))else none
 |some _,some false=>match b with
  |x::_=>some (.one x)
  |[]=>none
 |_,_=>none
def zJ (e:Bool):BinOp->Value->Value->Option Value
 | .add,.int k a,.int c b=>if k=c then some (.int k (k.wrap (a+b)))else none
 | .sub,.int k a,.int c b=>if k=c then some (.int k (k.wrap (a-b)))else none
 | .mul,.int k a,.int c b=>if k=c then some (.int k (k.wrap (a*b)))else none
 | .quo,.int k a,.int c b=>if k=c/\b≠0 then some (.int k (k.wrap (a.tdiv b)))else none
 | .rem,.int k a,.int c b=>if k=c/\b≠0 then some (.int k (a.tmod b))else none
 | .shl,.int k a,.int _ b=>if 0<=b then some (.int k (k.wrap (a*2^(min b.toNat k.bits))))else none
 | .shr,.int k a,.int _ b=>if 0<=b then some (.int k (a.fdiv (2^(min b.toNat k.bits))))else none
 | .and,.int k a,.int c b=>if k=c then some (.int k (k.wrap ((BitVec.ofInt k.bits a&&&BitVec.ofInt k.bits b).toNat:Int)))else none
 | .or,.int k a,.int c b=>if k=c then some (.int k (k.wrap ((BitVec.ofInt k.bits a|||BitVec.ofInt k.bits b).toNat:Int)))else none
 | .xor,.int k a,.int c b=>if k=c then some (.int k (k.wrap ((BitVec.ofInt k.bits a^^^BitVec.ofInt k.bits b).toNat:Int)))else none
 | .andNot,.int k a,.int c b=>if k=c then some (.int k (k.wrap ((BitVec.ofInt k.bits a&&& ~~~BitVec.ofInt k.bits b).toNat:Int)))else none
 | .eql,.int k a,.int c b=>if k=c then some (.bool (decide (a=b)))else none
 | .neq,.int k a,.int c b=>if k=c then some (.bool (!decide (a=b)))else none
 | .lss,.int k a,.int c b=>if k=c then some (.bool (decide (a<b)))else none
 | .leq,.int k a,.int c b=>if k=c then some (.bool (decide (a<=b)))else none
 | .gtr,.int k a,.int c b=>if k=c then some (.bool (decide (b<a)))else none
 | .geq,.int k a,.int c b=>if k=c then some (.bool (decide (b<=a)))else none
 | .eql,.bool a,.bool b=>if e=true then some (.bool (a==b))else none
 | .neq,.bool a,.bool b=>if e=true then some (.bool (!(a==b)))else none
 |_,_,_=>none
def FP (P:Program) (t:TypeId):Option Nat:=match pH P t with
 |some (n,e)=>if yQ P e≠none/\gL P e=some false/\ir P e=some 1/\P.eqGuardType P.depth t=false then some n else none
 |none=>none
def Od:List AV->List AV->Option Bool
 |[],[]=>some true
 | .p (.raw (.int k a))::f,.p (.raw (.int e b))::g=>match Od f g with
  |some c=>if k=e then some (decide (a=b)&&c)else none
  |none=>none
 |_,_=>none
def Dr (P:Program) (op:BinOp) (t:TypeId) (c e:List AV):Option TV:=match FP P t,Od c e,op with
 |some n,some b,.eql=>if c.length=n then some (.raw (.bool b))else none
 |some n,some b,.neq=>if c.length=n then some (.raw (.bool !b))else none
 |_,_,_=>none
def KX:UnOp->Value->Option Value
 | .neg,.int k n=>some (.int k (k.wrap (0-n)))
 | .not,.bool b=>some (.bool !b)
 |_,_=>none
def Gw:Operand->Bool
 | .const (.slice none _ _)=>true
 |_=>false
def xA:TV->Option Bool
 | .one (.p (.raw (.slice none _ _)))=>some true
 | .one (.p (.sl (_::_)))=>some false
 |_=>none
def Ae (P:Program) (op:BinOp) (t:TypeId) (x y:Option TV):Option TV:=match dw P t,x.bind xA,y.bind xA,op with
 |some _,some b,some true,.eql=>some (.raw (.bool b))
 |some _,some b,some true,.neq=>some (.raw (.bool !b))
 |_,_,_,_=>none
def RB (f:Int->Int->Int):List (Option TV)->Option TV
 |[some (.one (.p (.raw (.int k a)))),some (.one (.p (.raw (.int _ b))))]=>some (.raw (.int k (f a b)))
 |_=>none
def YX (ev:Operand->Option TV) (c:Call):Option TV:=match c.callee with
 | .builtin .max=>RB (fun a b=>if b>a then b else a) (c.args.toList.map ev)
 | .builtin .min=>RB (fun a b=>if b<a then b else a) (c.args.toList.map ev)
 |_=>none
def SQ:Callee->Bool
 | .builtin .max| .builtin .min=>true
 |_=>false
def i7 (P:Program) (ev:Operand->Option TV):Op->Option TV
 | .move x=>ev x
 | .assign x=>ev x
 | .pick c a b=>match ev c with
  |some (.one (.p (.raw (.bool true))))=>ev a
  |some (.one (.p (.raw (.bool false))))=>ev b
  |_=>none
 | .binOp op t x y _=>if Gw y=true then Ae P op t (ev x) (ev y)else match ev x,ev y with
  |some (.one (.p (.raw a))),some (.one (.p (.raw b)))=>(zJ (wF P t) op a b).map TV.raw
  |some (.agg g),some (.agg h)=>Dr P op t g h
  |_,_=>none
 | .unOp op _ x=>match ev x with
  |some (.one (.p (.raw a)))=>(KX op a).map TV.raw
  |_=>none
 | .convert src dst x=>match ev x,P.underlying src,yQ P dst with
  |some (.one (.p (.raw (.int _ n)))),some _,some k=>some (.raw (.int k (k.wrap n)))
  |_,_,_=>none
 | .extract t i=>match ev t with
  |some (.tup f)=>match f[i]? with
   |some (true,e)=>some (.agg e)
   |some (false,[x])=>some (.one x)
   |_=>none
  |_=>none
 | .call c=>YX ev c
 |_=>none
def nH:Op->Bool
 | .call c=>SQ c.callee
 | .move _| .assign _| .pick ..| .binOp ..| .unOp ..| .convert ..| .extract ..=>true
 |_=>false
def Aa (z:Int):Option Nat:=if 0<=z then some z.toNat else none
def d7 (ev:Operand->Option TV):Option Operand->Nat->Option Nat
 |none,d=>some d
 |some x,_=>match ev x with
  |some (.one (.p (.raw (.int _ n))))=>Aa n
  |_=>none
def cellsOf:TV->Option (List AV)
 | .one (.p x)=>some [.p x]
 | .one (.sl a r b len)=>some [.sl a r b len]
 | .agg c=>some c
 |_=>none
def gS (P:Program) (t:TypeId):Option (List (Nat×Nat)):=(P.underlying t).bind fun| .struct b=>b.toList.mapM (fun f=>(P.info? f.type).map fun i=>(f.offset,i.size))| .array _ e=>(P.info? e).map fun _=>[]|_=>none
def jy (e:List (Nat×Nat)) (ev:Operand->Option TV):List AV->List (Nat×Operand)->Option (List AV)
 |cs,[]=>some cs
 |cs,(f,x)::c=>match e[f]?,(ev x).bind cellsOf with
  |some (b,n),some g=>if g.length=n/\b+n<=cs.length then jy e ev (cs.take b++g++cs.drop (b+n)) c else none
  |_,_=>none
def eK (ev:Operand->Option TV):List Operand->Option (List TV)
 |[]=>some []
 |x::l=>match ev x,eK ev l with
  |some t,some b=>some (t::b)
  |_,_=>none
def jv:List TV->Option (List AV)
 |[]=>some []
 | .one .junk::_=>none
 | .one x::l=>match jv l with
  |some b=>some (x::b)
  |none=>none
 |_::_=>none
def lI (a:Nat):List AV->Option (List (Nat×Nat×Nat))
 |[]=>some []
 | .ptr b r i j::l=>if b=a then(lI a l).map ((r,i,j):: ·)else none
 |_=>none
def FU:Option TV->Option (FuncId×List TV)
 |some (.fn f c)=>some (f,c.map TV.one)
 |some (.one (.fn f a e))=>some (f,e.map fun q=>TV.one (.ptr a q.1 q.2.1 q.2.2))
 |some (.one (.p (.raw (.func (.func f) first b))))=>if first.isEmpty&&b.isEmpty then some (f,[])else none
 |_=>none
def bU (P:Program) (ev:Operand->Option TV) (H:OH):Op->Option TV
 | .load t a=>match ev a with
  |some (.one (.p (.ptr s)))=>nw P t (s.map AV.p)
  |some (.one (.ptr a r i j))=>match(H a)[r]? with
   |some o=>match o.elems[i]? with
    |some e=>nw P t (e.drop j)
    |none=>none
   |none=>none
  |_=>none
 | .indexAddr t x A=>match ev A with
  |some (.one (.p (.raw (.int _ n))))=>match Aa n with
   |none=>none
   |some i=>match dw P t,ev x with
    |some e,some (.one (.p (.sl u)))=>match u[i]? with
     |some c=>if ir P e=some c.length then some (.one (.p (.ptr c)))else none
     |none=>none
    |some e,some (.one (.sl a r g len))=>match(H a)[r]? with
     |some o=>if ir P e=some o.es/\i<len then some (.one (.ptr a r (g+i) 0))else none
     |none=>none
    |none,some (.one (.p (.ptr s)))=>match pH P t with
     |some (n,e)=>match ir P e with
      |some sz=>if i<n then some (.one (.p (.ptr (s.drop (i*sz)))))else none
      |none=>none
     |none=>none
    |none,some (.one (.ptr a r k j))=>match pH P t with
     |some (n,e)=>match ir P e with
      |some sz=>if i<n then some (.one (.ptr a r k (j+i*sz)))else none
      |none=>none
     |none=>none
    |none,some (.one (.p (.raw (.pointer (some ⟨b,g,none⟩)))))=>match pH P t with
     |some (n,e)=>match ir P e with
      |some sz=>if i<n then some (.one (.p (.raw (.pointer (some ⟨b,g+i*sz,none⟩)))))else none
      |none=>none
     |none=>none
    |_,_=>none
  |_=>none
 | .fieldAddr t x f=>match dc P t f,ev x with
  |some (g,v),some (.one (.p (.ptr s)))=>match ir P v with
   |some (_+1)=>some (.one (.p (.ptr (s.drop g))))
   |_=>none
  |some (g,v),some (.one (.ptr a r i j))=>match ir P v with
   |some (_+1)=>some (.one (.ptr a r i (j+g)))
   |_=>none
  |_,_=>none
 | .field t x f=>match dc P t f,ev x with
  |some (g,v),some (.agg s)=>nw P v (s.drop g)
  |_,_=>none
 | .index t x A=>match ev A with
  |some (.one (.p (.raw (.int _ n))))=>match Aa n with
   |none=>none
   |some i=>match pH P t,ev x with
    |some (m,e),some (.agg s)=>match ir P e with
     |some sz=>if i<m then nw P e (s.drop (i*sz))else none
     |none=>none
    |_,_=>none
  |_=>none
 | .slice t x (some y) (some w) (some B)=>match dw P t,ev x with
  |some e,some (.one (.sl a r g len))=>match d7 ev (some y) 0,d7 ev (some w) 0,d7 ev (some B) 0,(H a)[r]? with
   |some l,some h,some m,some o=>if ir P e=some o.es/\l<h/\h<=m/\m<=len/\5000<=a then some (.one (.sl a r (g+l) (h-l)))else none
   |_,_,_,_=>none
  |_,_=>none
 | .slice t x y w none=>match dw P t,ev x with
  |some e,some (.one (.p (.sl u)))=>match d7 ev y 0,d7 ev w u.length,ir P e with
   |some l,some h,some n=>if l<=h/\h<=u.length/\ ∀c∈u,c.length=n then some (.one (.p (.sl ((u.take h).drop l))))else none
   |_,_,_=>none
  |some e,some (.one (.sl a r g len))=>match d7 ev y 0,d7 ev w len,(H a)[r]? with
   |some l,some h,some o=>if ir P e=some o.es/\l<h/\h<=len then some (.one (.sl a r (g+l) (h-l)))else if ir P e=some o.es/\l=h/\h<=len then some (.one (.p (.sl [])))else none
   |_,_,_=>none
  |_,_=>none
 | .build t parts=>match dy P t,gS P t with
  |some z,some C=>if z.all (·.oneCell')then(jy C ev (z.map AV.raw) parts.toList).map TV.agg else none
  |_,_=>none
 | .nilCheck x=>match ev x with
  |some (.one (.p (.ptr s)))=>some (.one (.p (.ptr s)))
  |some (.one (.ptr a r i j))=>some (.one (.ptr a r i j))
  |_=>none
 | .makeFunc (.func f) first q=>if first.isEmpty then((eK ev q.toList).bind jv).map (TV.fn f)else none
 | .call {callee:= .builtin .len,args,argTypes}=>match args.toList,argTypes.toList with
  |[x],[t]=>match dw P t,ev x with
   |some _,some (.one (.p (.sl u)))=>some (.raw (.int .i64 u.length))
   |some _,some (.one (.sl _ _ _ len))=>some (.raw (.int .i64 len))
   |some _,some (.one (.p (.raw (.slice _ n _))))=>some (.raw (.int .i64 n))
   |_,_=>none
  |_,_=>none
 |_=>none
def yD:Op->Bool
 | .load ..| .indexAddr ..| .fieldAddr ..| .field ..| .index ..| .slice ..| .build ..| .nilCheck ..| .makeFunc ..| .call {callee:= .builtin .len,..}=>true
 |_=>false
def isPure:AV->Bool
 | .p _=>true
 |_=>false
def vO:AV->PV
 | .p x=>x
 |_=> .raw undef
def bY (d:Nat):AV->AV
 | .sl _ r b len=> .sl d r b len
 | .ptr _ r i j=> .ptr d r i j
 | .fn f _ c=>if c.isEmpty then .junk else .fn f d c
 |x=>x
theorem mb (d:Nat):pm (bY d):=fun _ _ c=>by
 cases c with
 |nil=>exact .inl rfl
 |cons q l=>exact .inr ⟨d,q::l,rfl,rfl,fun _ q b=>⟨q,b,rfl⟩⟩
theorem dv (d:Nat) (x:AV):bs d (bY d x):=by
 cases x with
 |fn f a b=>cases b with
  |nil=>trivial
  |cons q l=>exact⟨rfl,by simp⟩
 |_=>first|rfl|trivial
theorem zA {d:Nat} {m b:Rho} {H e:OH} {X g:Nat->Prop} {j:World} (h: ∀x v,D3 x=true->bs 0 x->AV.rel m H X w (bY d x) v->AV.rel b e g j x v) (x:AV) (v:Value) (c:bs 0 x) (k:AV.rel m H X w (bY d x) v):AV.rel b e g j x v:=by
 cases x with
 |fn f a y=>
  cases y with
  |nil=>exact absurd rfl c.2
  |cons B l=>
  obtain⟨vs,p,r,o,s⟩:=k;refine⟨vs,p,r,o,fun n q t=>?_⟩;obtain⟨u,z,A⟩:=s n q t;exact⟨u,z,h (.ptr a q.1 q.2.1 q.2.2) u rfl c.1 A⟩
 |_=>exact h _ v rfl c k
def renTV (d:Nat):TV->TV
 | .one x=> .one (bY d x)
 | .agg b=> .agg (b.map (bY d))
 | .tup c=> .tup (c.map fun t=>(t.1,t.2.map (bY d)))
 | .fn f b=> .fn f (b.map (bY d))
def renO (d:Nat) (o:OObj):OObj:={o with elems:=o.elems.map (List.map (bY d))}
def famH (d:Nat) (F:List OObj):OH:=fun a=>if a=d then F else[]
def aw (H:OH) (d:Nat) (F:List OObj):OH:=fun a=>if a=d then F else H a
def aN (k:Nat->Nat->Bool):AV->AV
 | .sl a r b len=>if k a r then .junk else .sl a r b len
 | .ptr a r i j=>if k a r then .junk else .ptr a r i j
 | .fn f a c=>if c.any (fun q=>k a q.1)then .junk else .fn f a c
 |x=>x
theorem mO (k:Nat->Nat->Bool):pm (aN k):=fun f a c=>by
 by_cases h:c.any (fun q=>k a q.1)=true
 ·exact .inl (if_pos h)
 refine .inr ⟨a,c,if_neg h,rfl,fun n q b=>⟨q,b,?_⟩⟩;have:k a q.1=false:=by
  simp only[List.any_eq_true,not_exists,not_and,adN]at h;exact h q (u5 b)
 simp[aN,this]
def aP (k:Nat->Nat->Bool):TV->TV
 | .one x=> .one (aN k x)
 | .agg b=> .agg (b.map (aN k))
 | .tup c=> .tup (c.map fun t=>(t.1,t.2.map (aN k)))
 | .fn f b=> .fn f (b.map (aN k))
def jC (k:Nat->Nat->Bool) (o:OObj):OObj:={o with elems:=o.elems.map (List.map (aN k))}
structure CallRes where
 fam:List OObj
 r:TV
def callable (P:Program) (f:FuncId):Bool:=match P.funcs[f]? with
 | some fn => fn.body.isSome && !(fn.name == "runtime.NumGoroutine")
 |none=>false
def CallC (P:Program) (f:FuncId) (args:List TV) (res:CallRes):Prop:=
 callable P f=true/\ ∀(X:Nat->Prop) (w:World) (vs:Array Value),(∀b,X b->b<w.heap.size)->vs.size=args.length->
  (∀(j:Nat) t,args[j]?=some t-> ∃v:Value,vs[j]?=some v/\t.rel (fun _ _=>none) (fun _=>[]) X w v)->
  Calls P f vs w fun e g=> ∃v,e= .returned v/\ ∃c:Rho,
   Inv w (fun _=>False) X (famH 0 res.fam) c g/\res.r.rel c (famH 0 res.fam) (Xo X c (famH 0 res.fam)) g v
def rC:AV->Bool
 | .p (.raw _)=>true
 |_=>false
def oz:TV->Bool
 | .one x=>rC x
 | .agg b=>b.all rC
 | .tup c=>c.all fun t=>t.2.all rC
 | .fn _ b=>b.all rC
def CallRes.plain (res:CallRes):Bool:=res.fam.isEmpty&&oz res.r
def fJ:AV->Bool
 | .sl ..=>false
 | .ptr ..=>false
 | .fn ..=>false
 |_=>true
def noRefTV:TV->Bool
 | .one x=>fJ x
 | .agg b=>b.all fJ
 | .tup c=>c.all fun t=>t.2.all fJ
 | .fn _ b=>b.all fJ
structure cB (P:Program) where
 i:Nat
 f:FuncId
 args:List TV
 res:CallRes
structure ao (P:Program) where
 i:Nat
 f:FuncId
 args:List TV
 res:CallRes
 h:CallC P f args res
def ao.a {P:Program} (b:ao P):cB P:=⟨b.i,b.f,b.args,b.res⟩
def gP (P:Program) (b:List (cB P)):Prop:= ∀c∈b,CallC P c.f c.args c.res
theorem ao.ok {P:Program} (b:List (ao P)):gP P (b.map ao.a):=fun e c=>by
 obtain⟨x,_,rfl⟩:=aai.1 c;exact x.h
def ib (H:OH):TV->TV
 | .one (.sl a r b len)=>match(H a)[r]? with
  |some o=> .one (.p (.sl ((((o.elems.take (b+len)).drop b)).map (List.map vO))))
  |none=> .one .junk
 | .one (.p (.raw (.slice none 0 0)))=> .one (.p (.sl []))
 |t=>t
def dV (own:Bool) (H:OH):TV->Bool
 | .one (.sl a r _ _)=>own&&match(H a)[r]? with
  |some o=>o.elems.all fun e=>e.all isPure
  |none=>false
 | .one (.p _)=>true
 | .agg b=>b.all isPure
 | .fn _ b=>b.all isPure
 |_=>false
def gZ (H:OH):TV->Option (List (List AV))
 | .one (.p (.sl c))=>some (c.map (List.map AV.p))
 | .one (.p (.raw (.slice none 0 0)))=>some []
 | .one (.sl a r b len)=>match(H a)[r]? with
  |some o=>if o.elems.all fun e=>e.all isPure then some ((o.elems.take (b+len)).drop b)else none
  |none=>none
 |_=>none
def pW (ev:Operand->Option TV) (n:Nat):Nat->List (Nat×Operand)->Option (List (List AV))
 |_,[]=>some []
 |i,(k,x)::b=>match(ev x).bind cellsOf,pW ev n (i+1) b with
  |some c,some l=>if k=i/\c.length=n/\c.all isPure then some (c::l)else none
  |_,_=>none
open Classical in
noncomputable def b9 (P:Program) (j:List (cB P)) (v:List Nat) (i d:Nat) (ev:Operand->Option TV) (H:OH):Op->Option (TV×List OObj)
 | .box e x=>match(ev x).bind cellsOf with
  |some u=>if u.all isPure/\0<u.length then some (.one (.ptr d 0 0 0),[⟨e,u.length,[u]⟩])else none
  |none=>none
 | .alloc e=>match dy P e with
  |some z=>if z.all (·.oneCell')/\0<z.length then some (.one (.ptr d 0 0 0),[⟨e,z.length,[z.map AV.raw]⟩])else none
  |none=>none
 | .makeSlice t l c=>match ev l,ev c,dw P t with
  |some (.one (.p (.raw (.int _ n)))),some (.one (.p (.raw (.int _ m)))),some e=>match dy P e,ir P e,IH P e with
   |some z,some sz,some o=>if 0<=n/\n<=m/\m<=9223372036854775807/\(o:Int)*m<=281474976710656/\z.length=sz/\0<sz/\z.all (·.oneCell')then
     some (.one (.sl d 0 0 n.toNat),[⟨e,sz,List.replicate n.toNat (z.map AV.raw)⟩])else none
   |_,_,_=>none
  |_,_,_=>none
 | .buildSlice t n parts=>match dw P t with
  |some e=>match dy P e,ir P e with
   |some z,some sz=>match pW ev sz 0 parts.toList with
    |some l=>if l.length=n/\n*sz<=16777216/\z.length=sz/\0<sz then
      if v.contains d then some (.one (.sl d 0 0 n),[⟨e,sz,l⟩])else some (.one (.p (.sl (l.map (List.map vO)))),[])else none
    |none=>none
   |_,_=>none
  |none=>none
 | .call c=>match c.callee with
  | .value (.func f)=>match j.find? (·.i==i),eK ev c.args.toList with
   |some g,some q=>if g.f=f/\q.map (ib H)=g.args/\q.all (dV g.res.plain H)/\(!g.res.fam.isEmpty||noRefTV g.res.r)then some (renTV d g.res.r,g.res.fam.map (renO d))else none
   |_,_=>none
  | .value (.tmp k)=>match FU (ev (.tmp k)),j.find? (·.i==i),eK ev c.args.toList with
   |some (f,h),some g,some q=>if g.f=f/\(q++h).map (ib H)=g.args/\(q++h).all (dV g.res.plain H)/\(!g.res.fam.isEmpty||noRefTV g.res.r)then some (renTV d g.res.r,g.res.fam.map (renO d))else none
   |_,_,_=>none
  | .builtin .append=>match c.args.toList,c.argTypes.toList with
   |[s,x],[t,w]=>match ev s,(ev x).bind (gZ H),dw P t with
    |some (.one (.p (.raw (.slice none 0 0)))),some b,some e=>match dy P e,ir P e,IH P e with
     |some z,some sz,some o=>if t=w/\b.length*o<=140737488355328/\b.length<=9223372036854775807/\z.length=sz/\0<sz/\(∀e∈b,e.length=sz)then
       some (.one (.sl d 0 0 b.length),[⟨e,sz,b⟩])else none
     |_,_,_=>none
    |_,_,_=>none
   |_,_=>none
  |_=>none
 |_=>none
def putCells (e:List AV) (j:Nat) (b:List AV):List AV:=e.take j++b++e.drop (j+b.length)
def Tk (a:Nat):AV->Bool
 | .p _=>true
 | .sl b _ _ _=>b==a
 |_=>false
structure Fh where
 t:TV
 H:OH
 k:Nat->Nat->Bool
def gn (P:Program) (ev:Operand->Option TV) (H:OH):Op->Option Fh
 | .store t a x=>match ev a,ir P t with
  |some (.one (.ptr a r i j)),some n=>match(H a)[r]? with
   |some o=>match o.elems[i]? with
    |some e=>match ev x with
     |some (.one (.sl h u g len))=>
      if h=a then
       if n=1/\j<e.length then some ⟨.undef,aw H a ((H a).set r {o with elems:=o.elems.set i (putCells e j [.sl h u g len])}),fun _ _=>false⟩else none
      else match H h with
       |[p]=>if h<=4999/\u=0/\g=0/\len=p.elems.length/\n=1/\j<e.length/\p.elems.all (fun e=>e.all isPure)then
         some ⟨.undef,aw (aw H a ((H a).set r {o with elems:=o.elems.set i (putCells e j [.sl a (H a).length 0 len])}++[p])) h [],fun x _=>x==h⟩else none
       |_=>none
     |some (.fn f l)=>match lI a l with
      |some q=>if n=1/\j<e.length/\0<q.length then some ⟨.undef,aw H a ((H a).set r {o with elems:=o.elems.set i (putCells e j [.fn f a q])}),fun _ _=>false⟩else none
      |none=>none
     |some v=>match cellsOf v with
      |some l=>if l.length=n/\j+n<=e.length/\l.all (Tk a)then
        some ⟨.undef,aw H a ((H a).set r {o with elems:=o.elems.set i (putCells e j l)}),fun _ _=>false⟩else none
      |none=>none
     |none=>none
    |none=>none
   |none=>none
  |_,_=>none
 | .call c=>match c.callee,c.args.toList,c.argTypes.toList with
  | .builtin .append,[s,x],[t,w]=>match ev s,(ev x).bind (gZ H),dw P t with
   |some (.one (.sl a r g len)),some b,some e=>match(H a)[r]?,dy P e,ir P e,IH P e with
    |some o,some z,some sz,some m=>if a<=4999/\t=w/\o.ty=e/\o.es=sz/\o.elems.all (fun e=>e.all isPure)/\g=0/\len=o.elems.length/\(len+b.length)*m<=140737488355328/\len+b.length<=9223372036854775807/\z.length=sz/\(∀e∈b,e.length=sz)then
      some ⟨.one (.sl a r 0 (len+b.length)),aw H a (((H a).map (jC fun x y=>x==a&&y==r)).set r {o with elems:=o.elems++b}),fun x y=>x==a&&y==r⟩else none
    |_,_,_,_=>none
   |_,_,_=>none
  |_,_,_=>none
 |_=>none
noncomputable def dG (P:Program) (b:List (cB P)) (c:List Nat) (i:Nat) (o:Oper) (s:AS):Option AS:=
 if nH o.op then(i7 P s.ev o.op).map (s.put o.dst)
 else if yD o.op then(bU P s.ev s.H o.op).map (s.put o.dst)
 else match gn P s.ev s.H o.op with
  |some q=>some (AS.put ⟨s.tmps.map (aP q.k),q.H⟩ o.dst q.t)
  |none=>match o.dst with
   |none=>none
   |some d=>match b9 P b c i d s.ev s.H o.op with
    |some (t,[])=>some (s.put (some d) t)
    |some (t,F)=>match s.H d with
     |[]=>some (AS.put ⟨s.tmps,aw s.H d F⟩ (some d) t)
     |_=>none
    |none=>none
noncomputable def aS (P:Program) (c:List (cB P)) (h:List Nat) (f:Array Oper) (i:Nat) (o:Oper) (s:AS):Option AS:=
 match o.guard with
 |none=>dG P c h i o s
 |some (g,e)=>match(f[g]?).bind (·.dst)with
  |none=>none
  |some d=>match s.tmps[d]? with
   |some (.one (.p (.raw (.bool b))))=>if b=e then dG P c h i o s else some (s.put o.dst .undef)
   |some (.tup [])=>some (s.put o.dst .undef)
   |_=>none
noncomputable def f7 (P:Program) (b:List (cB P)) (f:List Nat) (c:Array Oper):List (Oper×Nat)->AS->Option AS
 |[],s=>some s
 |(o,i)::e,s=>match aS P b f c i o s with
  |some g=>f7 P b f c e g
  |none=>none
section
section
variable {P:Program} {ρ:Rho} {H:OH} {X:Nat->Prop} {w:World}
def iU (ρ:Rho) (H:OH) (X:Nat->Prop) (w:World) (ev:Operand->Option TV) (e:Operand->Value):Prop:= ∀x t,ev x=some t->TV.rel ρ H X w t (e x)
theorem aV {a v:Value} (h:TV.rel ρ H X w (.raw a) v):v=a/\a.oneCell'=true:=by
 cases h with
 |raw v h=>exact⟨rfl,h⟩
theorem bZ {a:Value} (h:a.oneCell'=true):TV.rel ρ H X w (.raw a) a:=bQ.raw a h
theorem D4 (v:Value):TV.rel ρ H X w (oX v) v:=by
 unfold oX;split
 ·rename_i e;split
  ·rename_i h;simp only[aah]at h;refine⟨e,rfl,by simp,fun j x b=>?_⟩;rw[u9]at b;cases c:e.toList[j]? with
   |none=>rw[c]at b;cases b
   |some u=>
    rw[c]at b;simp at b;subst b;have f:u.oneCell'=true:=h u (u5 c);exact⟨u,by simpa using c,f,bQ.raw u f⟩
  exact trivial
 split
 ·exact bQ.raw _ (by assumption)
 exact trivial
theorem Dv {op:BinOp} {a v:Value} (c:zJ (wF P b) op a h=some v) (x y:Operand):
  (do eqGuard op b x y a h;binOp op b a h:Sem Value).run P w= .ok v w/\v.oneCell'=true:=by
 unfold zJ at c;split at c
 case h_1|h_2|h_3|h_8|h_9|h_10|h_11|h_12|h_13|h_14|h_15|h_16|h_17=>
  split at c
  ·rename_i f;subst f;injection c with c
   subst c;refine⟨?_,rfl⟩;show(if _≠_ then _ else _:Sem Value).run P w=_;rw[if_neg (fun c=>c rfl)];rfl
  cases c
 case h_4|h_5=>
  split at c
  ·rename_i f;obtain⟨f,e⟩:=f;subst f;injection c with c
   subst c;refine⟨?_,rfl⟩;show(if _≠_ then _ else(if _=_ then _ else _):Sem Value).run P w=_;rw[if_neg (fun c=>c rfl),if_neg e];rfl
  cases c
 case h_6|h_7=>
  split at c
  ·rename_i e;injection c with c
   subst c;refine⟨?_,rfl⟩;show(if _<_ then _ else _:Sem Value).run P w=_;rw[if_neg (by omega)];rfl
  cases c
 case h_18|h_19=>
  split at c
  ·rename_i e;injection c with c
   subst c;have g:P.underlying b=some .bool:=by
    unfold wF at e;split at e
    ·assumption
    cases e
   refine⟨?_,rfl⟩
   first
    |exact run_eql_bool w b _ _ g
    |exact run_neq_bool w b _ _ g
  cases c
 case h_20=>cases c
theorem Gm {op:UnOp} {a:Value} (b:KX op a=some h):(Op.unary op a).run P w= .ok h w/\h.oneCell'=true:=by
 unfold KX at b;split at b
 ·injection b with b;subst b;exact⟨rfl,rfl⟩
 ·injection b with b;subst b;exact⟨rfl,rfl⟩
 cases b
theorem dD {s:Sem Value} {c:World} (b:s.run P w= .ok h c):(do pure (Next.value (<- s)):Sem Next).run P w= .ok (.value h) c:=by
 rw[aak,b];rfl
theorem Vi {s:Sem Unit} {b:World} (h:s.run P w= .ok () b):(do s;pure Next.skip:Sem Next).run P w= .ok .skip b:=by
 rw[aak,h];rfl
theorem js (h:pH P b=some (n,c)):P.underlying b=some (.array n c):=by
 unfold pH at h;cases f:P.underlying b with
 |none=>rw[f]at h;cases h
 |some d=>rw[f]at h;cases d<;>simp at h;rw[h.1,h.2]
theorem ny {d k0:Nat} {e:TypeId} {D:IntKind} (t:P.underlying e=some (.int D)) (f:(isAgg e).run P w= .ok false w) {vs us:Array Value}: ∀(l o:List AV) (m:Nat) (b:Bool),Od l o=some b->
  (∀(j:Nat) x,l[j]?=some x-> ∃u:Value,vs[m+j]?=some u/\x.rel ρ H X w u)->(∀(j:Nat) x,o[j]?=some x-> ∃u:Value,us[m+j]?=some u/\x.rel ρ H X w u)->
  (Op.eqItems (d+1) e 1 vs us (List.range' m l.length)).run P w= .ok b w
 |[],[],m,b,h,_,_=>by
  simp only[Od]at h;injection h with h
  subst h;simp[Op.eqItems]
 | .p (.raw (.int k a))::l,.p (.raw (.int N n))::o,m,b,h,r,s=>by
  simp only[Od]at h;split at h
  ·rename_i c A;split at h
   ·rename_i B;subst B;injection h with h
    subst h;obtain⟨u,J,K⟩:=r 0 _ rfl;obtain⟨I,L,M⟩:=s 0 _ rfl;have y:=(aV (H:=H) (ρ:=ρ) (X:=X) (w:=w) (v:=u) K).1;have z:=(aV (H:=H) (ρ:=ρ) (X:=X) (w:=w) (v:=I) M).1;subst y z;have C:=ny (d:=d) (k0:=k0) t f (vs:=vs) (us:=us) l o (m+1) c A (fun j x q=>by
     have:=r (j+1) x (by simpa using q);rwa[show m+1+j=m+(j+1) by omega]) (fun j x q=>by
     have:=s (j+1) x (by simpa using q);rwa[show m+1+j=m+(j+1) by omega])
    simp only[aaG,aa1,Op.eqItems,aak];have E:(part e vs (m*1)).run P w= .ok (.int k a) w:=by
     unfold part;rw[aak,f,aag,if_neg (by simp),ac7,show vs[m]?=_ from J];rfl
    have F:(part e us (m*1)).run P w= .ok (.int k n) w:=by
     unfold part;rw[aak,f,aag,if_neg (by simp),ac7,show us[m]?=_ from L];rfl
    rw[E,aag,F,aag];have G:(Op.equalIn (d+1) e (.int k a) (.int k n)).run P w= .ok (a==n) w:=by
     simp[Op.equalIn,aak,run_underlying t]
    rw[G,aag];by_cases g:a=n
    ·subst g;simp[C]
    simp[g]
   cases h
  cases h
 |[],_::_,_,_,h,_,_=>by simp[Od]at h
 | .p (.raw (.int _ _))::_,[],_,_,h,_,_=>by simp[Od]at h
theorem Ds {op:BinOp} {D:List AV} (f:Dr P op b l D=some j) {vs:Value} (V:bI ρ H X w l vs) (C:bI ρ H X w D h) (x y:Operand):
  ∃v,(do eqGuard op b x y vs h;binOp op b vs h:Sem Value).run P w= .ok v w/\j.rel ρ H X w v:=by
 obtain⟨vs,rfl,v1,Y⟩:=V;obtain⟨h,rfl,u1,W⟩:=C;have key: ∀n c,FP P b=some n->Od l D=some c->l.length=n->(Op.equalIn 10000 b (.agg vs) (.agg h)).run P w= .ok c w/\P.eqGuardType P.depth b=false:=fun n c o z B=>by
  unfold FP at o;split at o
  ·rename_i m e R;split at o
   ·rename_i S;obtain⟨s,Z,q,Q⟩:=S;injection o with o
    subst o;refine⟨?_,Q⟩;obtain⟨O,N⟩: ∃O,P.underlying e=some (.int O):=by
     unfold yQ at s;cases C:P.underlying e with
     |none=>rw[C]at s;exact absurd rfl s
     |some d=>rw[C]at s;cases d<;>first|exact⟨_,rfl⟩|exact absurd rfl s
    obtain⟨i,A,J⟩: ∃i,P.info? e=some i/\i.size=1:=by
     unfold ir at q;cases A:P.info? e with
     |none=>rw[A]at q;cases q
     |some i=>rw[A]at q;simp at q;exact⟨i,rfl,q⟩
    have G:(isAgg e).run P w= .ok false w:=by
     unfold isAgg;rw[aak,run_underlying N,aag];rfl
    rw[show(10000:Nat)=9999+1 from rfl,run_equalIn_array w 9999 vs h (js R) A];have I:P.cellsOf e=1:=by simp[Program.cellsOf,A,J]
    rw[I,aax,<- B];exact ny (d:=9998) (k0:=0) N G l D 0 c z (fun g x K=>by obtain⟨u,E,_,F⟩:=Y g x K;exact⟨u,by simpa using E,F⟩) (fun g x K=>by obtain⟨u,E,_,F⟩:=W g x K;exact⟨u,by simpa using E,F⟩)
   cases o
  cases o
 have guard: ∀p,P.eqGuardType P.depth b=false->(eqGuard p b x y (.agg vs) (.agg h)).run P w= .ok () w:=fun p U=>by
  cases p<;>first|rfl|simp[eqGuard,U]
 unfold Dr at f;split at f
 ·rename_i n c o z;split at f
  ·rename_i B;injection f with f
   subst f;obtain⟨L,M⟩:=key n c o z B;refine⟨.bool c,?_,bZ rfl⟩;rw[aak,guard _ M,aag,run_eql_struct,L];rfl
  cases f
 ·rename_i n c o z;split at f
  ·rename_i B;injection f with f
   subst f;obtain⟨L,M⟩:=key n c o z B;refine⟨.bool !c,?_,bZ rfl⟩;rw[aak,guard _ M,aag];show((do let r<- Op.equal b (.agg vs) (.agg h);pure (.bool !r):Sem Value)).run P w=_;rw[aak];have:(Op.equal b (.agg vs) (.agg h)).run P w= .ok c w:=L;rw[this];rfl
  cases f
 cases f
theorem xC {b:Bool} (e:xA j=some b) (f:j.rel ρ H X w h): ∃a n c,h= .slice a n c/\(b=true↔a=none):=by
 unfold xA at e;split at e
 ·injection e with e
  subst e;have:=(aV f).1;exact⟨none,_,_,this,by simp⟩
 ·injection e with e
  subst e;have f:bQ X w _ h:=f;cases f with
  |sl=>exact⟨_,_,_,rfl,by simp⟩
 cases e
theorem D2 {op:BinOp} {F G:Option TV} (g:Ae P op b F G=some j) {u:Value} (K: ∀x,F=some x->x.rel ρ H X w h) (z: ∀x,G=some x->x.rel ρ H X w u) (x y:Operand):
  ∃r,(do eqGuard op b x y h u;binOp op b h u:Sem Value).run P w= .ok r w/\j.rel ρ H X w r:=by
 have key: ∀e f,dw P b=some e->F.bind xA=some f->G.bind xA=some true-> ∃a n c m k,h= .slice a n c/\u= .slice none m k/\(Op.equal b h u).run P w= .ok f w:=fun e f l p s=>by
  obtain⟨M,B,C⟩:=aaw.1 p;obtain⟨N,D,E⟩:=aaw.1 s;obtain⟨a,n,c,rfl,I⟩:=xC C (K _ B);obtain⟨L,m,k,rfl,o⟩:=xC E (z _ D);have o:=o.1 rfl;subst o;refine⟨a,n,c,m,k,rfl,rfl,?_⟩;have q:P.underlying b=some (.slice e):=by
   unfold dw at l;cases z:P.underlying b with
   |none=>rw[z]at l;cases l
   |some d=>rw[z]at l;cases d<;>simp at l;rw[l]
  suffices J: ∀d,(Op.equalIn (d+1) b (.slice a n c) (.slice none m k)).run P w= .ok f w from J 9999
  intro d;cases a with
  |none=>
   rw[I.2 rfl];simp[Op.equalIn,aak,run_underlying q]
  |some a=>
   have:f=false:=by
    cases f with
    |false=>rfl
    |true=>exact absurd (I.1 rfl) (by simp)
   subst this;simp[Op.equalIn,aak,run_underlying q]
 unfold Ae at g;split at g
 ·rename_i e f l p s;injection g with g
  subst g;obtain⟨a,n,c,m,k,rfl,rfl,A⟩:=key _ _ l p s;refine⟨.bool f,?_,bZ rfl⟩;rw[aak,show(eqGuard .eql b x y (.slice a n c) (.slice none m k)).run P w= .ok () w from rfl,aag];show((do let r<- Op.equal b (.slice a n c) (.slice none m k);pure (.bool r):Sem Value)).run P w=_;rw[aak,A];rfl
 ·rename_i e f l p s;injection g with g
  subst g;obtain⟨a,n,c,m,k,rfl,rfl,A⟩:=key _ _ l p s;refine⟨.bool !f,?_,bZ rfl⟩;rw[aak,show(eqGuard .neq b x y (.slice a n c) (.slice none m k)).run P w= .ok () w from rfl,aag];show((do let r<- Op.equal b (.slice a n c) (.slice none m k);pure (.bool !r):Sem Value)).run P w=_;rw[aak,A];rfl
 cases g
theorem mc {f:Int->Int->Int} {l:List (Option TV)} (h:RB f l=some j): ∃k c a b,l=[some (.one (.p (.raw (.int k a)))),some (.one (.p (.raw (.int c b))))]/\j= .raw (.int k (f a b)):=by
 unfold RB at h;split at h
 ·injection h with h;exact⟨_,_,_,_,rfl,h.symm⟩
 cases h
theorem Bz {c e:Type} {f:c->e} {l:List c} {x y:e} (h:l.map f=[x,y]): ∃a b,l=[a,b]/\f a=x/\f b=y:=by
 match l,h with
 |[a,b],h=>simp at h;exact⟨a,b,rfl,h.1,h.2⟩
theorem wZ {ev:Operand->Option TV} (f:iU ρ H X w ev e) (h:i7 P ev o.op=some j):
  ∃v,(execOp e o).run P w= .ok (.value v) w/\j.rel ρ H X w v:=by
 unfold execOp;cases Q:o.op<;>rw[Q]at h<;>simp only[i7]at h<;>try cases h
 case call c=>
  obtain⟨callee,args,argTypes⟩:=c;unfold YX at h;split at h
  ·rename_i g;simp only at g;subst g;obtain⟨k,M,a,b,J,rfl⟩:=mc h;obtain⟨x,y,l,m,C⟩:=Bz J;obtain⟨args⟩:=args;simp only at l;subst l;refine⟨_,?_,bZ rfl⟩;have E:=(aV (f x _ m)).1;have F:=(aV (f y _ C)).1;simp only[resolve,invoke,builtin,aak,aaJ,aag,acI,aaC,aaR,E,F];rfl
  ·rename_i g;simp only at g;subst g;obtain⟨k,M,a,b,J,rfl⟩:=mc h;obtain⟨x,y,l,m,C⟩:=Bz J;obtain⟨args⟩:=args;simp only at l;subst l;refine⟨_,?_,bZ rfl⟩;have E:=(aV (f x _ m)).1;have F:=(aV (f y _ C)).1;simp only[resolve,invoke,builtin,aak,aaJ,aag,acI,aaC,aaR,E,F];rfl
  cases h
 case move x=>exact⟨_,rfl,f x j h⟩
 case assign x=>exact⟨_,rfl,f x j h⟩
 case pick c a b=>
  split at h
  ·rename_i g;have:=(aV (f c _ g)).1;refine⟨e a,?_,f a j h⟩;simp only[this];rfl
  ·rename_i g;have:=(aV (f c _ g)).1;refine⟨e b,?_,f b j h⟩;simp only[this];rfl
  cases h
 case binOp op ty x y yt=>
  split at h
  ·obtain⟨v,q,r⟩:=D2 h (fun j K=>f x j K) (fun j K=>f y j K) x y;exact⟨v,dD q,r⟩
  split at h
  ·rename_i a b p G;have m:=(aV (f x _ p)).1;have C:=(aV (f y _ G)).1;cases s:zJ (wF P ty) op a b with
   |none=>rw[s]at h;cases h
   |some v=>
    rw[s]at h;simp at h;subst h;obtain⟨q,r⟩:=Dv (P:=P) (w:=w) s x y;refine⟨v,?_,bZ r⟩;simp only[m,C];exact dD q
  ·rename_i W Y p G;obtain⟨v,q,r⟩:=Ds h (f x _ p) (f y _ G) x y;exact⟨v,dD q,r⟩
  cases h
 case unOp op ty x=>
  split at h
  ·rename_i a p;have m:=(aV (f x _ p)).1;cases s:KX op a with
   |none=>rw[s]at h;cases h
   |some v=>
    rw[s]at h;simp at h;subst h;obtain⟨q,r⟩:=Gm (P:=P) (w:=w) s;refine⟨v,?_,bZ r⟩;simp only[m];exact dD q
  cases h
 case convert src dst x=>
  split at h
  ·rename_i k n U M p R A;have m:=(aV (f x _ p)).1;injection h with h
   subst h;have O:P.underlying dst=some (.int M):=by
    unfold yQ at A;cases B:P.underlying dst with
    |none=>rw[B]at A;cases A
    |some d=>rw[B]at A;cases d<;>simp at A;rw[A]
   refine⟨_,?_,bZ rfl⟩;simp only[m];refine dD ?_;unfold convert;rw[aak,run_underlying R,aag,aak,run_underlying O,aag];rfl
  cases h
 case extract x i=>
  split at h
  ·rename_i V p;obtain⟨vs,D,S,N⟩:=f x _ p;split at h
   ·rename_i T I;injection h with h
    subst h;obtain⟨u,B,g⟩:=N i _ _ I;rcases g with⟨_,g⟩|⟨g,_⟩
    ·refine⟨u,?_,g⟩;refine dD ?_;simp only[D,Instr.extract,B];rfl
    cases g
   ·rename_i y I;injection h with h
    subst h;obtain⟨u,B,g⟩:=N i _ _ I;rcases g with⟨g,_⟩|⟨_,z,L,g⟩
    ·cases g
    injection L with L
    subst L;refine⟨u,?_,g⟩;refine dD ?_;simp only[D,Instr.extract,B];rfl
   cases h
  cases h
end
end
section
section
variable {P:Program} {ρ:Rho} {H:OH} {X:Nat->Prop} {w:World}
theorem r7 (h:ir P b=some n): ∃i,P.info? b=some i/\i.size=n:=by
 unfold ir at h;cases c:P.info? b with
 |none=>rw[c]at h;cases h
 |some i=>rw[c]at h;simp at h;exact⟨i,rfl,h⟩
theorem B6 {t:TypeId} {i:TypeInfo} (h:P.info? t=some i):(typeInfo t).run P w= .ok i w:=by
 unfold typeInfo;show (match P.info? t with | some i => pure i | none => stuck "no such type" : Sem TypeInfo).run P w = _;rw[h];rfl
theorem dT (h:ir P b=some n):(sizeOf b).run P w= .ok n w:=by
 obtain⟨i,c,e⟩:=r7 h;unfold sizeOf;rw[aak,B6 c,aag,e];rfl
theorem rJ {c:Bool} (h:gL P b=some c):(isAgg b).run P w= .ok c w:=by
 unfold gL at h;cases e:P.underlying b with
 |none=>rw[e]at h;cases h
 |some d=>
  rw[e]at h;unfold isAgg;rw[aak,run_underlying e,aag];cases d<;>simp at h<;>subst h<;>rfl
theorem dH (h:dw P b=some c):P.underlying b=some (.slice c):=by
 unfold dw at h;cases f:P.underlying b with
 |none=>rw[f]at h;cases h
 |some d=>rw[f]at h;cases d<;>simp at h;rw[h]
theorem nZ (h:dc P b n=some (m,c)): ∃e d,P.underlying b=some (.struct e)/\e[n]?=some d/\d.offset=m/\d.type=c:=by
 unfold dc at h;cases g:P.underlying b with
 |none=>rw[g]at h;cases h
 |some d=>
  rw[g]at h;cases d<;>simp at h;rename_i e;obtain⟨d,o,j,l⟩:=h;exact⟨e,d,rfl,o,j,l⟩
def oM (ρ:Rho) (H:OH) (X:Nat->Prop) (w:World) (b c:Nat) (e:List AV):Prop:=
 ∀(j:Nat) x,e[j]?=some x-> ∃v:Value,w.cell? ⟨b,c+j,none⟩=some v/\v.oneCell'=true/\x.rel ρ H X w v
theorem mH {cs:List AV} (h:oM ρ H X w n m cs) (k:Nat):oM ρ H X w n (m+k) (cs.drop k):=by
 intro j x e;rw[aaN]at e;obtain⟨v,c,f⟩:=h _ _ e;exact⟨v,by rw[<- acE]at c;exact c,f⟩
theorem A5 {b off:Nat} {cs:List AV} (h:oM ρ H X w b off cs):
  ∃vs:List Value,vs.length=cs.length/\(∀(j:Nat) v,vs[j]?=some v->w.cell? ((⟨b,off,none⟩:Addr).add j)=some v)/\(∀(j:Nat) x,cs[j]?=some x-> ∃u:Value,vs[j]?=some u/\u.oneCell'=true/\x.rel ρ H X w u):=by
 induction cs generalizing off with
 |nil=>exact⟨[],rfl,fun j v n=>by simp at n,fun j x e=>by simp at e⟩
 |cons c cs o=>
  obtain⟨v,g,l,m⟩:=h 0 c rfl;obtain⟨vs,l1,p,q⟩:=o (off:=off+1) (mH (cs:=c::cs) h 1);refine⟨v::vs,by simp[l1],fun j u f=>?_,fun j x e=>?_⟩
  ·cases j with
   |zero=>simp at f;subst f;simpa[ab1] using g
   |succ j=>
    simp at f;have:=p j u f;rw[ab1]at this⊢;rw[<- this];congr 2;omega
  cases j with
  |zero=>simp at e;subst e;exact⟨v,rfl,l,m⟩
  |succ j=>simp at e;obtain⟨u,h⟩:=q j x e;exact⟨u,by simpa using h.1,h.2⟩
theorem pX (h:nw P b l=some j) (q:oM ρ H X w n m l):
  ∃v,(loadVar b ⟨n,m,none⟩).run P w= .ok v w/\j.rel ρ H X w v:=by
 unfold nw at h;split at h
 ·rename_i f r o;split at h
  ·rename_i A;injection h with h
   subst h;obtain⟨vs,l1,u,y⟩:=A5 (cs:=l.take f) (b:=n) (off:=m) (fun c x g=>by
    rw[aaH]at g;split at g
    ·exact q c x g
    cases g)
   refine⟨.agg vs.toArray,?_,vs.toArray,rfl,by simp[l1],fun c x g=>?_⟩
   ·unfold loadVar;rw[aak,rJ o,aag,if_pos rfl,aak,dT r,aag];have:=run_loadCells_list (P:=P) w ⟨n,m,none⟩ vs u;rw[show vs.length=f by rw[l1,abc];omega]at this;rw[aak,this];rfl
   simpa using y c x g
  cases h
 ·rename_i r o;split at h
  ·rename_i x e;injection h with h
   subst h;obtain⟨v,p,z,s⟩:=q 0 x rfl;refine⟨v,?_,s⟩;unfold loadVar;rw[aak,rJ o,aag,if_neg (by simp),run_load];simp only[aa3]at p;rw[p]
  cases h
 cases h
theorem jj {m:List PV} (c:bQ X w (.ptr m) h): ∃b e,h= .pointer (some ⟨b,e,none⟩)/\ ¬X b/\oM ρ H X w b e (m.map AV.p):=by
 cases c with
 |ptr b e m f o r q n=>
  refine⟨b,e,rfl,o,fun j x g=>?_⟩;rw[u9]at g;cases l:m[j]? with
  |none=>rw[l]at g;cases g
  |some y=>
   rw[l]at g;simp at g;subst g;exact⟨f j,q j y l,(n j y l).one,n j y l⟩
theorem rF {e:List PV} {k:Nat} (h:bQ X w (.ptr e) (.pointer (some ⟨n,m,none⟩))):bQ X w (.ptr (e.drop k)) (.pointer (some ⟨n,m+k,none⟩)):=by
 cases h with
 |ptr n m e f g l o p=>
  refine .ptr n (m+k) (e.drop k) (fun j=>f (k+j)) g l (fun j x c=>?_) (fun j x c=>?_)
  ·rw[aaN]at c;rw[acE];exact o _ _ c
  rw[aaN]at c;exact p _ _ c
theorem Ai {a:Nat} {o:OObj} {c i:Nat} (t:objRel ρ H X w a n o) (g:ρ a n=some (m,c)) (q:o.elems[i]?=some l):oM ρ H X w m (i*o.es) l:=by
 obtain⟨_,_,f⟩:=t;rw[g]at f;obtain⟨cells,s,_,_,_,u⟩:=f;intro j x y;obtain⟨v,h,p,f⟩:=u i l j x q y;refine⟨v,?_,p,f⟩;unfold World.cell?;simp only[s];exact h
theorem p9 {z:Int} (h:Aa z=some n):0<=z/\z.toNat=n:=by
 unfold Aa at h;split at h
 ·injection h with h;exact⟨by assumption,h⟩
 cases h
theorem KV {ev:Operand->Option TV} (n:iU ρ H X w ev e) (u: ∀(a r:Nat) (o:OObj),(H a)[r]?=some o->objRel ρ H X w a r o) (D:o.op= .load b f) (h:bU P ev H o.op=some j): ∃v,(execOp e o).run P w= .ok (.value v) w/\j.rel ρ H X w v:=by
 unfold execOp;rw[D]at h⊢;simp only[bU]at h;split at h
 ·rename_i G z;obtain⟨g,F,y,K,C⟩:=jj (ρ:=ρ) (H:=H) (n f _ z);obtain⟨v,p,q⟩:=pX h C;refine⟨v,dD ?_,q⟩;rw[y];exact p
 ·rename_i a r i l z;obtain⟨L,g,c,p,q,J,y⟩:=n f _ z;split at h
  ·rename_i E m;rw[p]at m;injection m with m
   subst m;split at h
   ·rename_i I s;obtain⟨v,A,B⟩:=pX h (mH (Ai (u a r _ p) q s) l);refine⟨v,dD ?_,B⟩;rw[y];exact A
   cases h
  cases h
 cases h
theorem w9 {ev:Operand->Option TV} (s:iU ρ H X w ev e) (ac: ∀(a r:Nat) (o:OObj),(H a)[r]?=some o->objRel ρ H X w a r o) {ix:Operand} (ho:o.op= .indexAddr b f ix) (h:bU P ev H o.op=some j): ∃v,(execOp e o).run P w= .ok (.value v) w/\j.rel ρ H X w v:=by
 unfold execOp;rw[ho]at h⊢;simp only[bU]at h;split at h
 ·rename_i k n V;have M:=(aV (s ix _ V)).1;split at h
  ·cases h
  rename_i i E;obtain⟨G,E⟩:=p9 E;split at h
  ·rename_i Q xs F z;have z:=s f _ z;split at h
   ·rename_i c J;split at h
    ·rename_i u;injection h with h
     subst h;generalize W:e f=vx at*
     have U:i<xs.length:=(aaf.1 J).1;cases z with
     |nil a c=>simp at U
     |sl g q R cap xs l hX hb S aa hm C N=>
      have K:c.length=R:=S c (u5 J);refine⟨.pointer (some ⟨g,q+i*R,none⟩),dD ?_,.ptr g (q+i*R) c (l i) hX hb (fun p y Y=>C i c p y J Y) (fun p y Y=>N i c p y J Y)⟩;unfold Instr.indexAt;rw[M,W,aak];show Result.andThen (.ok (k,n) w) _=_;rw[aag];simp only[aak,run_underlying (dH F),aag,aaJ];rw[if_pos ⟨G,by omega⟩,aak,dT u,aag];rw[E,ab1,K];rfl
    cases h
   cases h
  ·rename_i Q a r q len F z;obtain⟨O,h1,h2,h3⟩:=s f _ z;split at h
   ·rename_i ad A;rw[h1]at A;injection A with A
    subst A;split at h
    ·rename_i D;injection h with h
     subst h;rcases h3 with⟨_,_,ab,_⟩|⟨g,c,cap,Z,B,_⟩
     ·omega
     refine⟨.pointer (some ⟨g,(q+i)*O.es+0,none⟩),dD ?_,O,g,c,h1,Z,by omega,rfl⟩;unfold Instr.indexAt;rw[M,B,aak];show Result.andThen (.ok (k,n) w) _=_;rw[aag];simp only[aak,run_underlying (dH F),aag,aaJ];rw[if_pos ⟨G,by omega⟩,aak,dT D.1,aag];rw[E,ab1,aa3,abg];rfl
    cases h
   cases h
  ·rename_i cs F z;split at h
   ·rename_i m Q I;split at h
    ·rename_i sz u;split at h
     ·rename_i L;injection h with h
      subst h;obtain⟨g,q,B,hX,J⟩:=jj (ρ:=ρ) (H:=H) (s f _ z);have hr:=s f _ z;rw[B]at hr;refine⟨.pointer (some ⟨g,q+i*sz,none⟩),dD ?_,rF hr⟩;unfold Instr.indexAt;rw[M,B,aak];show Result.andThen (.ok (k,n) w) _=_;rw[aag];simp only[aak,run_underlying (js I),aag,aaJ,Instr.sureAddr];rw[if_pos ⟨G,by omega⟩,aak,dT u,aag,E,ab1];rfl
     cases h
    cases h
   cases h
  ·rename_i a r kk p F z;split at h
   ·rename_i m Q I;split at h
    ·rename_i sz u;split at h
     ·rename_i L;injection h with h
      subst h;obtain⟨O,g,c,g1,g2,g3,B⟩:=s f _ z;refine⟨.pointer (some ⟨g,kk*O.es+(p+i*sz),none⟩),dD ?_,O,g,c,g1,g2,g3,rfl⟩;unfold Instr.indexAt;rw[M,B,aak];show Result.andThen (.ok (k,n) w) _=_;rw[aag];simp only[aak,run_underlying (js I),aag,aaJ,Instr.sureAddr];rw[if_pos ⟨G,by omega⟩,aak,dT u,aag,E,ab1,acE];rfl
     cases h
    cases h
   cases h
  ·rename_i g q F z;split at h
   ·rename_i m Q I;split at h
    ·rename_i sz u;split at h
     ·rename_i L;injection h with h
      subst h;have B:=(aV (s f _ z)).1;refine⟨.pointer (some ⟨g,q+i*sz,none⟩),dD ?_,bZ rfl⟩;unfold Instr.indexAt;rw[M,B,aak];show Result.andThen (.ok (k,n) w) _=_;rw[aag];simp only[aak,run_underlying (js I),aag,aaJ,Instr.sureAddr];rw[if_pos ⟨G,by omega⟩,aak,dT u,aag,E,ab1];rfl
     cases h
    cases h
   cases h
  cases h
 cases h
theorem w8 {ev:Operand->Option TV} (p:iU ρ H X w ev e) (K:o.op= .fieldAddr b f n) (h:bU P ev H o.op=some j): ∃v,(execOp e o).run P w= .ok (.value v) w/\j.rel ρ H X w v:=by
 unfold execOp;rw[K]at h⊢;simp only[bU]at h;split at h
 ·rename_i D F M C s;obtain⟨g,Q,u,N,O⟩:=jj (ρ:=ρ) (H:=H) (p f _ s);have s:=p f _ s;split at h
  ·rename_i m q;injection h with h
   subst h;obtain⟨E,d,y,z,A,B⟩:=nZ C;rw[u]at s;refine⟨_,dD ?_,rF s⟩;unfold Instr.fieldAt;rw[aak,run_underlying y,aag];simp only[z,u,Instr.sureAddr,aak,aaJ,aag,fieldPlace,B,dT q];rw[if_neg (by simp)];simp only[aaJ,aag,A,ab1]
  cases h
 ·rename_i D F a r i l C s;obtain⟨L,g,c,G,I,J,u⟩:=p f _ s;split at h
  ·rename_i m q;injection h with h
   subst h;obtain⟨E,d,y,z,A,B⟩:=nZ C;refine⟨_,dD ?_,L,g,c,G,I,J,rfl⟩;unfold Instr.fieldAt;rw[aak,run_underlying y,aag];simp only[z,u,Instr.sureAddr,aak,aaJ,aag,fieldPlace,B,dT q];rw[if_neg (by simp)];simp only[aaJ,aag,A,ab1,acE]
  cases h
 cases h
end
end
section
section
variable {P:Program} {ρ:Rho} {H:OH} {X:Nat->Prop} {w:World}
theorem xO {vs:Array Value} (h:nw P b (l.drop n)=some j) (A:vs.size=l.length) (r: ∀(c:Nat) x,l[c]?=some x-> ∃u:Value,vs[c]?=some u/\u.oneCell'=true/\x.rel ρ H X w u):
  ∃v,(part b vs n).run P w= .ok v w/\j.rel ρ H X w v:=by
 unfold nw at h;split at h
 ·rename_i f s o;split at h
  ·rename_i p;injection h with h
   subst h;refine⟨.agg (vs.extract n (n+f)),?_,_,rfl,?_,fun c x g=>?_⟩
   ·unfold part;rw[aak,rJ o,aag,if_pos rfl,aak,dT s,aag];rfl
   ·simp at p⊢;omega
   rw[aaH]at g;split at g
   ·rename_i z;rw[aaN]at g;obtain⟨u,m,q⟩:=r _ x g;refine⟨u,?_,q⟩;rw[Array.getElem?_extract,if_pos (by have:=(aan.1 m).1;omega)];exact m
   cases g
  cases h
 ·rename_i s o;split at h
  ·rename_i x e p;injection h with h
   subst h;have g:l[n]?=some x:=by
    have:(l.drop n)[0]?=some x:=by rw[p];rfl
    rw[aaN]at this;simpa using this
   obtain⟨u,m,q,y⟩:=r _ x g;refine⟨u,?_,y⟩;unfold part;rw[aak,rJ o,aag,if_neg (by simp),m];rfl
  cases h
 cases h
theorem Gg {ev:Operand->Option TV} (c:iU ρ H X w ev e) (y:o.op= .field b f n) (h:bU P ev H o.op=some j): ∃v,(execOp e o).run P w= .ok (.value v) w/\j.rel ρ H X w v:=by
 unfold execOp;rw[y]at h⊢;simp only[bU]at h;split at h
 ·rename_i C F D u B;obtain⟨vs,A,z,s⟩:=c f _ B;obtain⟨E,d,m,p,q,r⟩:=nZ u;obtain⟨v,g,l⟩:=xO h z s;refine⟨v,dD ?_,l⟩;unfold Instr.field;rw[aak,run_underlying m,aag];simp only[p,A,asAgg,aak,aaJ,aag,q,r,g]
 cases h
theorem Gh {ev:Operand->Option TV} (c:iU ρ H X w ev e) {q:Operand} (C:o.op= .index b f q) (h:bU P ev H o.op=some j): ∃v,(execOp e o).run P w= .ok (.value v) w/\j.rel ρ H X w v:=by
 unfold execOp;rw[C]at h⊢;simp only[bU]at h;split at h
 ·rename_i k n l;have B:=(aV (c q _ l)).1;split at h
  ·cases h
  rename_i i g;obtain⟨u,g⟩:=p9 g;split at h
  ·rename_i m I G y F;split at h
   ·rename_i sz p;split at h
    ·rename_i A;obtain⟨vs,E,D,z⟩:=c f _ F;obtain⟨v,r,s⟩:=xO h D z;refine⟨v,dD ?_,s⟩;unfold Instr.index;rw[B,E,aak];show Result.andThen (.ok (k,n) w) _=_;rw[aag];simp only[aak,run_underlying (js y),aag,aaJ];rw[if_pos ⟨u,by omega⟩,aak,dT p,aag,g,r]
    cases h
   cases h
  cases h
 cases h
theorem i4 {ev:Operand->Option TV} (b:iU ρ H X w ev e) {d:Nat} (h:d7 ev g d=some n):
  (g=none/\n=d)\/ ∃y k z,g=some y/\e y= .int k z/\0<=z/\z.toNat=n:=by
 unfold d7 at h;split at h
 ·injection h with h;exact .inl ⟨rfl,h.symm⟩
 rename_i dd y;split at h
 ·rename_i k z j;obtain⟨c,f⟩:=p9 h;exact .inr ⟨y,k,z,rfl,(aV (b y _ j)).1,c,f⟩
 cases h
theorem dP {k:IntKind} {z:Int} {c:BoundsCode} (b:0<=z) (e:z.toNat=m) (f:m<=n):(Instr.sliceBound (.int k z) n c).run P w= .ok m w:=by
 unfold Instr.sliceBound;show(if 0<=z/\z<=n then(pure z.toNat:Sem Nat)else boundsPanic k z n c).run P w=_;rw[if_pos ⟨b,by omega⟩,e];rfl
theorem fp {ev:Operand->Option TV} (b:iU ρ H X w ev e) {u:Option Operand} {len cap:Nat} (v:d7 ev g 0=some n) (t:d7 ev u len=some m) (r:n<=m) (s:m<=cap):
  (Instr.sliceBounds true len cap (g.map e) (u.map e) none).run P w= .ok (n,m,cap) w:=by
 unfold Instr.sliceBounds;rcases i4 b v with⟨rfl,rfl⟩|⟨y,k,z,rfl,o,p,q⟩
 ·rcases i4 b t with⟨rfl,rfl⟩|⟨A,x,B,rfl,c,f,j⟩
  ·rfl
  simp only[aaT,abY,aak,aaJ,aag,c];rw[dP f j s];rfl
 rcases i4 b t with⟨rfl,rfl⟩|⟨A,x,B,rfl,c,f,j⟩
 ·simp only[aaT,abY,aak,aaJ,aag,o];rw[dP p q r];rfl
 simp only[aaT,abY,aak,aaJ,aag,o,c];rw[dP f j s,aag,dP p q r];rfl
theorem tH {ev:Operand->Option TV} (c:iU ρ H X w ev e) {p q:Operand} {len cap b:Nat} (I:d7 ev (some f) 0=some n) (G:d7 ev (some p) 0=some m) (J:d7 ev (some q) 0=some b) (D:n<=m) (E:m<=b) (F:b<=cap):
  (Instr.sliceBounds true len cap (some (e f)) (some (e p)) (some (e q))).run P w= .ok (n,m,b) w:=by
 unfold Instr.sliceBounds;rcases i4 c I with⟨m,_⟩|⟨y,k,z,o,r,s,t⟩
 ·cases m
 rcases i4 c G with⟨m,_⟩|⟨M,K,O,g,u,v,x⟩
 ·cases m
 rcases i4 c J with⟨m,_⟩|⟨N,L,Q,j,A,B,C⟩
 ·cases m
 injection o with o
 injection g with g
 injection j with j
 subst o g j;simp only[aak,aaJ,aag,r,u,A,Option.isSome_some,if_true];rw[dP B C F,aag,dP v x E,aag,dP s t D];rfl
theorem Gi {ev:Operand->Option TV} (B:iU ρ H X w ev e) (an: ∀(a r:Nat) (o:OObj),(H a)[r]?=some o->objRel ρ H X w a r o) {hi mx:Option Operand} (ho:o.op= .slice b f g hi mx) (h:bU P ev H o.op=some j): ∃v,(execOp e o).run P w= .ok (.value v) w/\j.rel ρ H X w v:=by
 unfold execOp;rw[ho]at h⊢;cases mx with
 |some mx=>
  cases g with
  |none=>simp only[bU]at h;cases h
  |some g=>
  cases hi with
  |none=>simp only[bU]at h;cases h
  |some hi=>
  simp only[bU]at h;split at h
  ·rename_i el a r E len hs V;obtain⟨J,Y,g2,g3⟩:=B f _ V;have F:=dH hs;split at h
   ·rename_i l M m ap N C al A;rw[Y]at A;injection A with A
    subst A;split at h
    ·rename_i u;obtain⟨K,Q,c3,c4,c5⟩:=u;injection h with h
     subst h;rcases g3 with⟨_,_,h0,_⟩|⟨p,c,cap,D,U,G,S⟩
     ·omega
     refine⟨_,dD ?_,J,Y,by omega,.inr ⟨p,c,m-l,D,rfl,by omega,fun h=>by omega⟩⟩;unfold Instr.sliceAt;simp only[aak,run_underlying F,aag];unfold Instr.slice;simp only[aak,run_underlying F,aag,U,aaT];rw[tH B N C al (by omega) c3 (by omega),aag];simp only[aak,dT K,aag,aaJ];rw[if_neg (by omega)];simp only[aaT,ab1];rw[abg]
    cases h
   cases h
  cases h
 |none=>
 simp only[bU]at h;split at h
 ·rename_i el xs hs V;have V:=B f _ V;generalize ae:e f=vx at*
  split at h
  ·rename_i l M n N C ad;split at h
   ·rename_i u;injection h with h
    subst h;obtain⟨K,Q,c3⟩:=u;have F:=dH hs;cases V with
    |nil a c=>
     have af:M=0:=by simpa using Q
     subst af;have ag:l=0:=by omega
     subst ag;refine⟨.slice (if c=0 then a else a.map (·.add (0*n))) (0-0) (c-0),dD ?_,?_⟩
     ·unfold Instr.sliceAt;simp only[aak,run_underlying F,aag];unfold Instr.slice;simp only[aak,run_underlying F,aag,ae,abY];rw[fp B N (show d7 ev hi 0=some 0 from C) (aaq _) (aaW _),aag];simp only[aak,dT ad,aag,aaJ]
     simp only[List.take_nil,List.drop_nil];exact bQ.nil _ _
    |sl p E es cap xs q hX hb aa G hm R ac=>
     refine⟨.slice (if cap=l then some ⟨p,E,none⟩else(some (⟨p,E,none⟩:Addr)).map (·.add (l*n))) (M-l) (cap-l),dD ?_,?_⟩
     ·unfold Instr.sliceAt;simp only[aak,run_underlying F,aag];unfold Instr.slice;simp only[aak,run_underlying F,aag,ae,abY];rw[fp B N C K (by omega),aag];simp only[aak,dT ad,aag,aaJ]
     show bQ _ _ _ _;have I:((xs.take M).drop l).length=M-l:=by simp;omega
     by_cases ah:l=M
     ·subst ah;rw[show(xs.take l).drop l=[] by rw[acf];simp;omega];rw[abQ];exact bQ.nil _ _
     rw[if_neg (by omega)];simp only[aaT,ab1];rw[<- I];have ab:es=n:=by
      cases W:xs with
      |nil=>rw[W]at Q;simp at Q;omega
      |cons y ys=>have h1:=aa y (by rw[W];simp);have h2:=c3 y (by rw[W];simp);omega
     subst ab;have O: ∀(i:Nat) y,((xs.take M).drop l)[i]?=some y->xs[l+i]?=some y:=fun i y Z=>by
      rw[aaN,aaH]at Z;split at Z
      ·exact Z
      cases Z
     refine .sl p (E+l*es) es (cap-l) _ (fun i s=>q (l+i) s) hX hb (fun y Z=>aa y (abr (abq Z))) (by rw[I];omega) (by rw[I];omega) (fun i y s z h1 h2=>?_) (fun i y s z h1 h2=>ac _ y s z (O i y h1) h2);have:=R _ y s z (O i y h1) h2;rw[<- this]
     congr 2
     rw[abg];omega
   cases h
  cases h
 ·rename_i el a r E len hs V;obtain⟨J,Y,g2,g3⟩:=B f _ V;have F:=dH hs;split at h
  ·rename_i l M ap N C A;rw[Y]at A;injection A with A
   subst A;have L: ∀p c,ρ a r=some (p,c)->J.elems.length<=c:=fun p c D=>by
    obtain⟨_,_,h3⟩:=an a r J Y;rw[D]at h3;obtain⟨_,_,_,h,_⟩:=h3;exact h
   split at h
   ·rename_i u;obtain⟨K,Q,c3⟩:=u;injection h with h
    subst h;rcases g3 with⟨_,_,h0,_⟩|⟨p,c,cap,D,U,G,S⟩
    ·omega
    have:=L p c D;refine⟨_,dD ?_,J,Y,by omega,.inr ⟨p,c,cap-l,D,rfl,by omega,fun h=>by have:=S h;omega⟩⟩;unfold Instr.sliceAt;simp only[aak,run_underlying F,aag];unfold Instr.slice;simp only[aak,run_underlying F,aag,U,abY];rw[fp B N C (by omega) (by omega),aag];simp only[aak,dT K,aag,aaJ];rw[if_neg (by omega)];simp only[aaT,ab1];rw[abg]
   split at h
   ·rename_i u;obtain⟨K,Q,c3⟩:=u;injection h with h
    subst h;subst Q;rcases g3 with⟨_,U,h0,_⟩|⟨p,c,cap,D,U,G,S⟩
    ·refine⟨.slice (if 0=l then none else(none:Option Addr).map (·.add (l*J.es))) 0 (0-l),dD ?_,bQ.nil _ _⟩;unfold Instr.sliceAt;simp only[aak,run_underlying F,aag];unfold Instr.slice;simp only[aak,run_underlying F,aag,U,abY];subst h0;rw[fp B N C (by omega) (by omega),aag];simp only[aak,dT K,aag,aaJ,abQ]
    have:=L p c D;refine⟨.slice (if cap=l then some ⟨p,E*J.es,none⟩else(some (⟨p,E*J.es,none⟩:Addr)).map (·.add (l*J.es))) 0 (cap-l),dD ?_,bQ.nil _ _⟩;unfold Instr.sliceAt;simp only[aak,run_underlying F,aag];unfold Instr.slice;simp only[aak,run_underlying F,aag,U,abY];rw[fp B N C (by omega) (by omega),aag];simp only[aak,dT K,aag,aaJ,abQ]
   cases h
  cases h
 cases h
theorem yN {ev:Operand->Option TV} (l:iU ρ H X w ev e) (p:o.op= .nilCheck f) (h:bU P ev H o.op=some j): ∃v,(execOp e o).run P w= .ok (.value v) w/\j.rel ρ H X w v:=by
 unfold execOp;rw[p]at h⊢;simp only[bU]at h;split at h
 ·rename_i t m;obtain⟨b,s,n,A,B⟩:=jj (ρ:=ρ) (H:=H) (l f _ m);injection h with h
  subst h;refine⟨e f,?_,l f _ m⟩;simp only[n];rfl
 ·rename_i a r i g m;have q:=l f _ m;obtain⟨C,b,c,u,y,z,n⟩:=q;injection h with h
  subst h;refine⟨e f,?_,l f _ m⟩;simp only[n];rfl
 cases h
theorem TN {g:TypeId} {a:Option Addr} (f:P.underlying b=some (.slice c)):(Builtin.len_ #[b] g #[.slice a n m]).run P w= .ok (goInt n) w:=by
 simp[Builtin.len_,run_underlying f]
theorem N4 {ev:Operand->Option TV} (m:iU ρ H X w ev e) {args:Array Operand} {argTypes:Array TypeId} (C:o.op= .call {callee:= .builtin .len,args,argTypes}) (h:bU P ev H o.op=some j): ∃v,(execOp e o).run P w= .ok (.value v) w/\j.rel ρ H X w v:=by
 unfold execOp;rw[C]at h⊢;simp only[bU]at h;obtain⟨args⟩:=args;obtain⟨argTypes⟩:=argTypes;split at h
 ·rename_i x t g y;simp only at g y;subst g y;have key: ∀a n c p,dw P t=some p->e x= .slice a n c->j= .raw (.int .i64 n)-> ∃v,(do let d<- resolve e {callee:= .builtin .len,args:=⟨[x]⟩,argTypes:=⟨[t]⟩} o.type;invoke d.target d.args:Sem Next).run P w= .ok (.value v) w/\j.rel ρ H X w v:=by
   intro a n c p l q B;subst B;refine⟨.int .i64 n,?_,bZ rfl⟩;simp only[resolve,invoke,builtin,aak,aaJ,aag,acI,aaC,aaR,q,TN (dH l)];rfl
  split at h
  ·rename_i p E l g;injection h with h
   have g:=m x _ g;generalize s:e x=K at g;cases g with
   |nil a c=>exact key _ _ _ _ l s h.symm
   |sl b u F cap E f=>exact key _ _ _ _ l s h.symm
  ·rename_i p a r u len l g;injection h with h
   obtain⟨J,G,I,z⟩:=m x _ g;rcases z with⟨_,q,A,_⟩|⟨b,c,cap,D,q,_⟩
   ·subst A;exact key _ _ _ _ l q h.symm
   exact key _ _ _ _ l q h.symm
  ·rename_i p a n c l g;injection h with h
   exact key _ _ _ _ l (aV (m x _ g)).1 h.symm
  cases h
 cases h
end
end
end Go.Proofs.YtalmoejhjceflaaGreat
