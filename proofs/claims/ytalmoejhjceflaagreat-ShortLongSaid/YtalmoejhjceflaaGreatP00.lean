/-
  Part 1 of a proof (walks and plain facts).
-/
import Derived.Test.YtalmoejhjceflaaGreatRows
import Derived.WalkKit
import Derived.WalkSpells
import Derived.WalkLawsBesides
import Derived.Deep.QuietTactic
import Derived.BigQuiet
import Derived.Lib.Hide
import Derived.Deep.Draws
import Derived.Deep.AppendLies
import Derived.Laws.OwnMore
import Derived.ProofKit
import Derived.OpenShut
import Derived.ShutString
import Derived.ChangeOld
import Derived.Below
import Derived.SizedLaws
import Derived.Deep.OwnRows
import Derived.Deep.LoopGhost
import Derived.Deep.Light
import Derived.Deep.Cut
import Derived.Deep.CutRange
import Derived.CellFam
import Derived.BigGuard
import Derived.BigRegion
import Derived.Maps.AppendAt
import Derived.RegionTactic
import Derived.OwnWalk
import Derived.Shelf.Spec.BitsCarry
import Derived.Shelf.Bits.Mul64
set_option linter.all false
set_option maxRecDepth 100000
set_option maxHeartbeats 64000000
open Nat renaming le_refl → ae
open Nat renaming add_zero → ao
open List renaming getElem?_eq_none → au
namespace Go.Proofs.YtalmoejhjceflaaGreat
open Go.RowKit
abbrev FF:=Nat->Nat->Int
def Ext (w w':World):Prop:=Below w.heap.size w w'
theorem Ext.refl (w:World):Ext w w:=Below.refl _ _
theorem Ext.trans {a b c:World} (h:Ext a b) (k:Ext b c):Ext a c:=Below.trans h (Below.mono k h.size)
theorem Ext.drew {a b:World} (h:Ext a b):Ext a b.drew:=Below.drew h
theorem Ext.drewN {a b:World} (h:Ext a b) (n:Nat):Ext a (b.drewN n):=⟨h.os,h.tape,h.output,h.size,h.block⟩
theorem Ext.alloc {a b:World} (h:Ext a b) (o:Obj):Ext a (b.alloc o):=Below.alloc h h.size o
theorem Ext.setCell {a b:World} (h:Ext a b) {p:Addr} (hp:a.heap.size<=p.block) (u:Value):Ext a (b.setCell p u):=Below.setCell h hp u
theorem Ext.grown {a b c:World} {row:Option Nat} (h:Ext a b) (hg:b.grownBy c row) (hr: ∀k,row=some k->a.heap.size<=k):Ext a c:=
 Below.grown h hg h.size hr
theorem Ext.cell {a b:World} (h:Ext a b) {p:Addr} {v:Value} (hp:a.cell? p=some v):b.cell? p=some v:=by
 have hlt:p.block<a.heap.size:=by
  rcases Nat.lt_or_ge p.block a.heap.size with hl|hg
  ·exact hl
  unfold World.cell? at hp;rw[Array.getElem?_eq_none hg]at hp;simp at hp
 rw[Below.cell h hlt];exact hp
theorem Ext.size {a b:World} (h:Ext a b):a.heap.size<=b.heap.size:=Below.size h
theorem wX {w:World} {p:Addr} {v:Value} (hp:w.cell? p=some v):p.block<w.heap.size:=by
 rcases Nat.lt_or_ge p.block w.heap.size with hl|hg
 ·exact hl
 unfold World.cell? at hp;rw[Array.getElem?_eq_none hg]at hp;simp at hp
def Rd (w:World) (A:Option Addr) (xs:List Value):Prop:=
 xs≠[]-> ∃b off,A=some ⟨b,off,none⟩/\ ∀i x,xs[i]?=some x->w.cell? ⟨b,off+i,none⟩=some x
theorem Rd.nil (w:World) (A:Option Addr):Rd w A []:=fun h=>absurd rfl h
theorem Rd.ext {w w':World} {A:Option Addr} {xs:List Value} (h:Rd w A xs) (k:Ext w w'):Rd w' A xs:=fun hne=>by
 obtain⟨b,off,rfl,hc⟩:=h hne;exact⟨b,off,rfl,fun i x hx=>k.cell (hc i x hx)⟩
theorem Rd.at_ {w:World} {A:Option Addr} {xs:List Value} (h:Rd w A xs) {k:Nat} {x:Value} (hk:xs[k]?=some x):
  ∃b off,A=some ⟨b,off,none⟩/\w.cell? ⟨b,off+k,none⟩=some x:=by
 obtain⟨b,off,rfl,hc⟩:=h (by rintro rfl;simp at hk);exact⟨b,off,rfl,hc k x hk⟩
def RdI (k:IntKind) (w:World) (A:Option Addr) (zs:List Int):Prop:=Rd w A (zs.map (Value.int k))
theorem RdI.nil (k:IntKind) (w:World) (A:Option Addr):RdI k w A []:=Rd.nil w A
theorem RdI.ext {k:IntKind} {w w':World} {A:Option Addr} {zs:List Int} (h:RdI k w A zs) (e:Ext w w'):RdI k w' A zs:=Rd.ext h e
theorem RdI.at_ {k:IntKind} {w:World} {A:Option Addr} {zs:List Int} (h:RdI k w A zs) {i:Nat} {z:Int} (hi:zs[i]?=some z):
  ∃b off,A=some ⟨b,off,none⟩/\w.cell? ⟨b,off+i,none⟩=some (.int k z):=Rd.at_ h (by simp[hi])
def Rh (k:IntKind) (w:World) (v:Value) (zs:List Int):Prop:=
 ∃B c,v= .slice B zs.length c/\zs.length<=c/\zs.length<=9223372036854775807/\RdI k w B zs
theorem Rh.ext {k:IntKind} {w w':World} {v:Value} {zs:List Int} (h:Rh k w v zs) (e:Ext w w'):Rh k w' v zs:=by
 obtain⟨B,c,h1,h2,h3,h4⟩:=h;exact⟨B,c,h1,h2,h3,h4.ext e⟩
def pC (k:IntKind) (w:World) (A:Option Addr) (rows:List (List Int)):Prop:=
 rows≠[]-> ∃b off,A=some ⟨b,off,none⟩/\ ∀i r,rows[i]?=some r-> ∃v,w.cell? ⟨b,off+i,none⟩=some v/\Rh k w v r
theorem pC.nil (k:IntKind) (w:World) (A:Option Addr):pC k w A []:=fun h=>absurd rfl h
theorem pC.ext {k:IntKind} {w w':World} {A:Option Addr} {rows:List (List Int)} (h:pC k w A rows) (e:Ext w w'):pC k w' A rows:=fun hne=>by
 obtain⟨b,off,rfl,hc⟩:=h hne;exact⟨b,off,rfl,fun i r hr=>by obtain⟨v,h1,h2⟩:=hc i r hr;exact⟨v,e.cell h1,h2.ext e⟩⟩
theorem pC.at_ {k:IntKind} {w:World} {A:Option Addr} {rows:List (List Int)} (h:pC k w A rows) {i:Nat} {r:List Int} (hi:rows[i]?=some r):
  ∃b off B c,A=some ⟨b,off,none⟩/\w.cell? ⟨b,off+i,none⟩=some (.slice B r.length c)/\r.length<=c/\r.length<=9223372036854775807/\RdI k w B r:=by
 obtain⟨b,off,rfl,hc⟩:=h (by rintro rfl;simp at hi);obtain⟨v,h1,B,c,rfl,h3,h4,h5⟩:=hc i r hi;exact⟨b,off,B,c,rfl,h1,h3,h4,h5⟩
theorem getElem?_of_lt {α:Type} {l:List α} {k:Nat} (h:k<l.length): ∃x,l[k]?=some x:=⟨l[k],List.getElem?_eq_getElem h⟩
theorem fq {k:IntKind} {a b:Int} (h:a=b):Ending.returned (.int k a)= .returned (.int k b):=by rw[h]
theorem fk {a b:Bool} (h:a=b):Ending.returned (.bool a)= .returned (.bool b):=by rw[h]
section
open Go.ChangeShapes Go.WideShapes Go.ChangeAt Go.RowKit
theorem Tryz.ownKnob_:ownKnob Tryz.prog.godebug=none:=by kernel_rfl
theorem AU {n:Int} (h:(Lit.int .u8 n).wf=true):0<=n/\n<=255:=by
 have:=Go.bounds_u8 h;omega
end
theorem ct {w w':World} {b:Nat} {t:TypeId} {n:Nat} {f:Nat->Value} (h:w.rowIs b t n f) (e:Ext w w'):w'.rowIs b t n f:=h.of_block (e.block b h.lt)
theorem RdI.of_row {k:IntKind} {w:World} {b:Nat} {t:TypeId} {n:Nat} {f:Nat->Value} {zs:List Int} (h:w.rowIs b t n f) (hl:zs.length<=n) (hf: ∀i z,zs[i]?=some z->f i= .int k z):
  RdI k w (some ⟨b,0,none⟩) zs:=fun _=>⟨b,0,rfl,fun i x hx=>by
 rw[List.getElem?_map]at hx;cases hz:zs[i]? with
 |none=>rw[hz]at hx;cases hx
 |some z=>
  rw[hz]at hx;have hi:i<zs.length:=by
   rcases Nat.lt_or_ge i zs.length with hl|hg
   ·exact hl
   rw[au hg]at hz;cases hz
  rw[Nat.zero_add,h.cell (by omega),hf i z hz];simpa using hx⟩
structure N7 (w wr:World) (tr te:TypeId) (n m r:Nat) (g:Nat->Nat) (Z:Nat->Nat->Value):Prop where
 ext:Ext w wr
 top:wr.rowIs w.heap.size tr n (fun j=>if j<r then .slice (some ⟨g j,0,none⟩) m m else .slice none 0 0)
 gt: ∀j,j<r->w.heap.size<g j
 done: ∀j,j<r->wr.rowIs (g j) te m (Z j)
structure Lt (w wi:World) (tr te:TypeId) (n m r c:Nat) (g:Nat->Nat) (Z:Nat->Nat->Value) (z:Value):Prop where
 ext:Ext w wi
 top:wi.rowIs w.heap.size tr n (fun j=>if j<r+1 then .slice (some ⟨g j,0,none⟩) m m else .slice none 0 0)
 gt: ∀j,j<r+1->w.heap.size<g j
 ne: ∀j,j<r->g j≠g r
 done: ∀j,j<r->wi.rowIs (g j) te m (Z j)
 cur:wi.rowIs (g r) te m (fun i=>if i<c then Z r i else z)
theorem FK (w:World) (tr te:TypeId) (n m:Nat) (g:Nat->Nat) (Z:Nat->Nat->Value):N7 w (w.alloc (.cells (madeCells #[.slice none 0 0] n) tr)) tr te n m 0 g Z:=
 ⟨(Ext.refl _).alloc _,(World.rowIs_made w _ n tr).congr (fun j _=>by simp),fun j hj=>absurd hj (Nat.not_lt_zero _),fun j hj=>absurd hj (Nat.not_lt_zero _)⟩
theorem N7.lt {w wr:World} {tr te:TypeId} {n m r:Nat} {g:Nat->Nat} {Z:Nat->Nat->Value} (h:N7 w wr tr te n m r g Z):w.heap.size<wr.heap.size:=h.top.lt
theorem FJ {w wr:World} {tr te:TypeId} {n m r:Nat} {g:Nat->Nat} {Z:Nat->Nat->Value} (z:Value) (h:N7 w wr tr te n m r g Z):
  Lt w ((wr.alloc (.cells (madeCells #[z] m) te)).setCell ⟨w.heap.size,r,none⟩ (.slice (some ⟨wr.heap.size,0,none⟩) m m)) tr te n m r 0 (fun j=>if j=r then wr.heap.size else g j) Z z:=by
 have hlt:=h.lt;have hnew:=World.rowIs_made wr z m te;refine⟨(h.ext.alloc _).setCell (ae _) _,((h.top.alloc _).set r _).congr (fun j _=>?_),fun j hj=>?_,fun j hj=>?_,fun j hj=>?_,?_⟩
 ·by_cases e:j=r
  ·subst e;simp
  by_cases hl:j<r
  ·rw[if_neg e,if_pos hl,if_pos (by omega)];simp[e]
  rw[if_neg e,if_neg hl,if_neg (by omega)]
 ·show w.heap.size<if j=r then _ else _
  by_cases e:j=r
  ·rw[if_pos e];exact hlt
  rw[if_neg e];exact h.gt j (by omega)
 ·have h1:(if j=r then wr.heap.size else g j)=g j:=if_neg (by omega);have h2:(if r=r then wr.heap.size else g r)=wr.heap.size:=if_pos rfl;show(if j=r then wr.heap.size else g j)≠(if r=r then wr.heap.size else g r);rw[h1,h2];have:=(h.done j hj).lt;omega
 ·have h1:(if j=r then wr.heap.size else g j)=g j:=if_neg (by omega);show World.rowIs _ (if j=r then wr.heap.size else g j) _ _ _;rw[h1];exact((h.done j hj).alloc _).setOther (by have:=h.gt j hj;show g j≠w.heap.size;omega) _
 show World.rowIs _ (if r=r then wr.heap.size else g r) _ _ _;rw[if_pos rfl];exact(hnew.setOther (by show wr.heap.size≠w.heap.size;omega) _).congr (fun i _=>by simp)
theorem Jx {w wi:World} {tr te:TypeId} {n m r c:Nat} {g:Nat->Nat} {Z:Nat->Nat->Value} {z v:Value} (h:Lt w wi tr te n m r c g Z z) (hv:v=Z r c):
  Lt w (wi.setCell ⟨g r,c,none⟩ v) tr te n m r (c+1) g Z z:=by
 subst hv;have hg:=h.gt r (by omega);refine⟨h.ext.setCell (by show w.heap.size<=g r;omega) _,h.top.setOther (by show w.heap.size≠g r;omega) _,h.gt,h.ne,fun j hj=>(h.done j hj).setOther (h.ne j hj) _,(h.cur.set c _).congr (fun i _=>?_)⟩;by_cases e:i=c
 ·subst e;simp
 rw[if_neg e];by_cases hlt:i<c
 ·rw[if_pos hlt,if_pos (by omega)]
 rw[if_neg hlt,if_neg (by omega)]
theorem Lt.drew {w wi:World} {tr te:TypeId} {n m r c:Nat} {g:Nat->Nat} {Z:Nat->Nat->Value} {z:Value} (h:Lt w wi tr te n m r c g Z z):Lt w wi.drew tr te n m r c g Z z:=
 ⟨h.ext.drew,h.top.drew,h.gt,h.ne,fun j hj=>(h.done j hj).drew,h.cur.drew⟩
theorem Jw {w wi:World} {tr te:TypeId} {n m r c:Nat} {g:Nat->Nat} {Z:Nat->Nat->Value} {z:Value} (h:Lt w wi tr te n m r c g Z z) (hc:m<=c):N7 w wi tr te n m (r+1) g Z:=
 ⟨h.ext,h.top,h.gt,fun j hj=>by
  by_cases e:j=r
  ·subst e;exact h.cur.congr (fun i hi=>by rw[if_pos (by omega)])
  exact h.done j (by omega)⟩
def kH (n m:Nat) (Z:FF):List (List Int):=(List.range n).map fun i=>(List.range m).map fun j=>Z i j
theorem jN (n m:Nat) (Z:FF):(kH n m Z).length=n:=by simp[kH]
theorem FD {n m:Nat} {Z:FF} {i:Nat} {r:List Int} (h:(kH n m Z)[i]?=some r):i<n/\r=(List.range m).map fun j=>Z i j:=by
 unfold kH at h;rw[List.getElem?_map]at h;by_cases hi:i<n
 ·rw[List.getElem?_range hi]at h;simp at h;exact⟨hi,h.symm⟩
 rw[au (by simp;omega)]at h;simp at h
theorem BU {n m:Nat} {Z:FF} {i j:Nat} (hi:i<n) (hj:j<m):((kH n m Z).getD i []).getD j 0=Z i j:=by
 simp[kH,List.getD_eq_getElem?_getD,List.getElem?_range,hi,hj]
theorem N7.rd {w wr:World} {tr te:TypeId} {n m r:Nat} {g:Nat->Nat} {k:IntKind} {Z:FF} (h:N7 w wr tr te n m r g (fun i j=> .int k (Z i j))) (hr:n<=r) (hm:m<=9223372036854775807):
  pC k wr (some ⟨w.heap.size,0,none⟩) (kH n m Z):=fun _=>by
 refine⟨w.heap.size,0,rfl,fun i row hrow=>?_⟩;obtain⟨hi,rfl⟩:=FD hrow;have hlen:((List.range m).map fun j=>Z i j).length=m:=by simp
 refine⟨.slice (some ⟨g i,0,none⟩) m m,?_,some ⟨g i,0,none⟩,m,by rw[hlen],by rw[hlen];exact ae _,by rw[hlen];exact hm,fun _=>⟨g i,0,rfl,fun j x hx=>?_⟩⟩
 ·have:=h.top.cell hi;rw[Nat.zero_add,this,if_pos (by omega)]
 have hj:j<m:=by
  rcases Nat.lt_or_ge j m with hl|hg
  ·exact hl
  rw[au (by simp;omega)]at hx;cases hx
 rw[Nat.zero_add,(h.done i (by omega)).cell hj];simp[hj]at hx;rw[hx]
section
section
variable {P:Program} (w:World)
theorem tQ (base:Nat) (t ty e:TypeId) (i:TypeInfo) (size:Nat) (ht:P.underlying t=some (.slice e)) (hi:P.info? e=some i)
  (v:Value) (n:Nat) (xs:List Value) (hown:w.ownsRow base e size v n xs) (c:Nat):(Builtin.append_ #[t,t] ty #[v,.slice none 0 c]).run P w= .ok v w:=by
 rcases hown.2 with⟨rfl,rfl⟩|⟨g,cap,cur,rfl,_,_,hnc,_⟩
 ·simp[Builtin.append_,run_underlying ht,sizeOf,typeInfo,hi,Builtin.lenOf,Builtin.firstCells]
 simp[Builtin.append_,run_underlying ht,sizeOf,typeInfo,hi,Builtin.lenOf,Builtin.firstCells,hnc,storeCells]
theorem jP (base:Nat) (t ty e:TypeId) (z:Value) (size bytes:Nat) (ht:P.underlying t=some (.slice e)) (hinfo:(P.info? e).map (fun i=>(i.zero,i.size,i.bytes))=some (some z,size,bytes))
  (hzs:z.cells.size=size) (hsz:0<size)
  (v:Value) (n:Nat) (xs:List Value) (hown:w.ownsRow base e size v n xs)
  (A:Option Addr) (m c:Nat) (news:List Value) (hr:Rd w A news) (hl:news.length=m*size) (h1: ∀u∈news,u.oneCell'=true)
  (h63:n+m<=maxLen) (hbytes:(n+m)*bytes<=140737488355328) (hbase:base<=w.heap.size):
  ∃v' w',(Builtin.append_ #[t,t] ty #[v,.slice A m c]).run P w= .ok v' w'/\w'.ownsRow base e size v' (n+m) (xs++news)/\w.grownBy w' v.ownBlock/\(v'.ownBlock=v.ownBlock\/v'.ownBlock=some w.heap.size):=by
 obtain⟨i,hi,hzz⟩:=Option.map_eq_some_iff.1 hinfo;simp only[Prod.mk.injEq]at hzz;obtain⟨hz,hs,hb⟩:=hzz;by_cases hne:news=[]
 ·subst hne;have hm:m=0:=by
   rcases Nat.eq_zero_or_pos m with h0|h0
   ·exact h0
   have:=Nat.mul_pos h0 hsz;simp at hl;omega
  subst hm;rcases A with _|ad
  ·exact⟨v,w,tQ w base t ty e i size ht hi v n xs hown c,by simpa using hown,World.grownBy.refl w _,.inl rfl⟩
  obtain⟨v',w',hrun,h2,h3,_,h5⟩:=run_append_own_at (P:=P) w base t ty e i z size bytes ht hi hz hs hb hzs hsz v n xs hown ad 0 c [] (by simp) (by simp) (by simp) h63 hbytes hbase;exact⟨v',w',hrun,h2,h3,h5⟩
 obtain⟨b,off,rfl,hc⟩:=hr hne;obtain⟨v',w',hrun,h2,h3,_,h5⟩:=run_append_own_at (P:=P) w base t ty e i z size bytes ht hi hz hs hb hzs hsz v n xs hown ⟨b,off,none⟩ m c news hl (fun j u hu=>by
  have:=hc j u hu;unfold Addr.add;split
  ·rename_i h0;subst h0;simpa using this
  exact this) h1 h63 hbytes hbase
 exact⟨v',w',hrun,h2,h3,h5⟩
theorem gN {ops:Array Oper} {rest:List Oper} {o:Oper} {a:Act} {Q:Exit->Act->World->Prop} (hgd:o.guard=none) (s x:Operand) (t:TypeId)
  (ho:o.op= .call {callee:= .builtin .append,args:= #[s,x],argTypes:= #[t,t]})
  (base:Nat) (e:TypeId) (z:Value) (size bytes:Nat) (ht:P.underlying t=some (.slice e)) (hinfo:(P.info? e).map (fun i=>(i.zero,i.size,i.bytes))=some (some z,size,bytes))
  (hzs:z.cells.size=size) (hsz:0<size)
  (v:Value) (n:Nat) (xs:List Value) (hs:a.eval s=v) (hown:w.ownsRow base e size v n xs)
  (A:Option Addr) (m c:Nat) (news:List Value) (hx:a.eval x= .slice A m c) (hr:Rd w A news) (hl:news.length=m*size) (h1: ∀u∈news,u.oneCell'=true)
  (h63:n+m<=maxLen) (hbytes:(n+m)*bytes<=140737488355328) (hbase:base<=w.heap.size)
  (h: ∀v' w',w'.ownsRow base e size v' (n+m) (xs++news)->w.grownBy w' v.ownBlock->(v'.ownBlock=v.ownBlock\/v'.ownBlock=some w.heap.size)->wpList P ops Q rest (a.put o.dst v') w'):wpList P ops Q (o::rest) a w:=by
 refine wpList_plain hgd fun K hK=>?_
 obtain⟨v',w',hrun,h2,h3,h4⟩:=jP (P:=P) w base t o.type e z size bytes ht hinfo hzs hsz v n xs hown A m c news hr hl h1 h63 hbytes hbase;unfold Oper.wp execOp;simp only[ho,resolve,invoke,builtin,Sem.run_bind,Sem.run_pure,Result.andThen_ok,List.map_toArray,List.map_cons,List.map_nil,hs,hx,hrun];exact hK _ _ (h v' w' h2 h3 h4)
end
theorem oQ {k:IntKind} {zs:List Int}: ∀u∈zs.map (Value.int k),u.oneCell'=true:=by
 intro u hu;obtain⟨z,_,rfl⟩:=List.mem_map.1 hu;rfl
theorem F1 {w:World} {base:Nat} {e:TypeId} {v:Value} {n:Nat} {xs:List Value} (h:w.ownsRow base e 1 v n xs) (hn:0<n):
  ∃g cap f,v= .slice (some ⟨g,0,none⟩) n cap/\n<=cap/\base<=g/\w.rowIs g e cap f/\ ∀i x,xs[i]?=some x->f i=x:=by
 obtain⟨hl,h2⟩:=h;rcases h2 with⟨hv,hn'⟩|⟨g,cap,cur,hv,hg,hh,hnc,hm,hs,ht⟩
 ·omega
 refine⟨g,cap,fun i=>cur[i]?.getD undef,hv,hnc,hg,⟨cur,hh,by omega,fun i hi=>?_⟩,fun i x hx=>?_⟩
 ·have:i<cur.size:=by omega
  simp[this]
 rw[<- ht,List.getElem?_take]at hx;split at hx
 ·have:cur[i]?=some x:=by simpa using hx
  simp[this]
 cases hx
theorem zQ {w w':World} {base:Nat} {e:TypeId} {size:Nat} {v:Value} {n:Nat} {xs:List Value} (h:w.ownsRow base e size v n xs) (k:Ext w w'):w'.ownsRow base e size v n xs:=by
 obtain⟨hl,h2⟩:=h;refine⟨hl,?_⟩;rcases h2 with h2|⟨g,cap,cur,hv,hg,hh,r⟩
 ·exact .inl h2
 refine .inr ⟨g,cap,cur,hv,hg,?_,r⟩;have hlt:g<w.heap.size:=by
  rcases Nat.lt_or_ge g w.heap.size with hl|hge
  ·exact hl
  rw[Array.getElem?_eq_none hge]at hh;cases hh
 rw[k.block g hlt];exact hh
theorem vG {w w0 w':World} {v:Value} {base:Nat} {e:TypeId} {size n:Nat} {xs:List Value} (hg:w.grownBy w' v.ownBlock) (ho:w.ownsRow base e size v n xs) (h:Ext w0 w) (hb:w0.heap.size<=base):Ext w0 w':=
 h.grown hg (fun k hk=>by have:=(ho.lt k hk).1;omega)
theorem tu {w:World} {base:Nat} {e:TypeId} {v:Value} {n:Nat} {xs:List Value} (h:w.ownsRow base e 2 v n xs) (hn:0<n):
  ∃g cap f,v= .slice (some ⟨g,0,none⟩) n cap/\n<=cap/\cap<=maxLen/\base<=g/\w.rowIs g e (cap*2) f/\ ∀i x,xs[i]?=some x->f i=x:=by
 obtain⟨hl,h2⟩:=h;rcases h2 with⟨hv,hn'⟩|⟨g,cap,cur,hv,hg,hh,hnc,hm,hs,ht⟩
 ·omega
 refine⟨g,cap,fun i=>cur[i]?.getD undef,hv,hnc,hm,hg,⟨cur,hh,by omega,fun i hi=>?_⟩,fun i x hx=>?_⟩
 ·have:i<cur.size:=by omega
  simp[this]
 rw[<- ht,List.getElem?_take]at hx;split at hx
 ·have:cur[i]?=some x:=by simpa using hx
  simp[this]
 cases hx
end
def dc (r:Nat->Int):(List Nat->Int)->List Nat->Int
 |_,[]=>0
 |f,c::cs=>r c*f cs-dc r (fun l=>f (c::l)) cs
theorem DY (a b:Int) (r s:Nat->Int): ∀(cs:List Nat) (f:List Nat->Int),dc (fun c=>a*r c+b*s c) f cs=a*dc r f cs+b*dc s f cs
 |[],f=>by simp[dc]
 |c::cs,f=>by
  simp only[dc,DY a b r s cs];grind
theorem sV (r:Nat->Int) (a b:Int): ∀(cs:List Nat) (f g:List Nat->Int),dc r (fun l=>a*f l+b*g l) cs=a*dc r f cs+b*dc r g cs
 |[],f,g=>by simp[dc]
 |c::cs,f,g=>by
  simp only[dc,sV r a b cs];grind
theorem zu (r:Nat->Int): ∀(cs:List Nat),dc r (fun _=>0) cs=0
 |[]=>rfl
 |c::cs=>by simp[dc,zu r cs]
theorem sU (r s:Nat->Int): ∀(cs:List Nat) (f:List Nat->Int),dc r (dc s f) cs= - dc s (dc r f) cs
 |[],f=>by simp[dc]
 |c::cs,f=>by
  have h1:(fun l=>dc s f (c::l))=fun l=>s c*f l+(-1)*dc s (fun m=>f (c::m)) l:=by funext l;simp only[dc];grind
  have h2:(fun l=>dc r f (c::l))=fun l=>r c*f l+(-1)*dc r (fun m=>f (c::m)) l:=by funext l;simp only[dc];grind
  have ih:=sU r s cs (fun m=>f (c::m));rw[dc,dc,h1,h2,sV,sV];have e1:dc r (fun l=>dc s (fun m=>f (c::m)) l) cs=dc r (dc s (fun m=>f (c::m))) cs:=rfl;have e2:dc s (fun l=>dc r (fun m=>f (c::m)) l) cs=dc s (dc r (fun m=>f (c::m))) cs:=rfl;rw[e1,e2,ih];grind
theorem PN (r:Nat->Int) (cs:List Nat) (f:List Nat->Int):dc r (dc r f) cs=0:=by
 have:=sU r r cs f;omega
theorem mp {r:Nat->Int}: ∀(cs:List Nat) (f:List Nat->Int),(∀c∈cs,r c=0)->dc r f cs=0
 |[],_,_=>rfl
 |c::cs,f,h=>by
  rw[dc,mp cs _ (fun c hc=>h c (List.mem_cons_of_mem _ hc)),h c List.mem_cons_self];simp
def om (R:FF):Nat->List Nat->Int
 |0=>fun _=>1
 |k+1=>dc (R k) (om R k)
def pK:Nat->List Nat
 |0=>[]
 |k+1=>k::pK k
theorem jI {k c:Nat} (h:c∈pK k):c<k:=by
 induction k with
 |zero=>simp[pK]at h
 |succ k ih=>
  rcases List.mem_cons.1 h with rfl|h
  ·omega
  have:=ih h;omega
def bk (R:FF) (k i j:Nat):Int:=dc (R i) (om R k) (j::pK k)
def dk (R:FF) (k:Nat):Int:=om R k (pK k)
theorem cj (R:FF):dk R 0=1:=rfl
theorem bT (R:FF) (k:Nat):dk R (k+1)=bk R k k k:=rfl
theorem cp (R:FF) (i j:Nat):bk R 0 i j=R i j:=by simp[bk,dc,om,pK]
theorem Ec (R:FF) {t k:Nat} (h:t<k) (cs:List Nat):dc (R t) (om R k) cs=0:=by
 induction k generalizing cs with
 |zero=>omega
 |succ k ih=>
  by_cases e:t=k
  ·subst e;exact PN _ _ _
  rw[om,sU,show dc (R t) (om R k)=fun _=>0 from funext (ih (by omega)),zu];rfl
theorem iA (R:FF) {t k:Nat} (h:t<k) (j:Nat):bk R k t j=0:=Ec R h _
theorem elim (R:FF): ∀k,(∀t,t<k->dk R (t+1)≠0)-> ∃N:Int,N≠0/\ ∀v:Nat->Int,∃v':Nat->Int,(∀c,c<k->v' c=0)/\
  ∀m,k<=m-> ∀cs,dc v' (om R m) cs=N*dc v (om R m) cs
 |0,_=>⟨1,by omega,fun v=>⟨v,fun c h=>by omega,fun m _ cs=>by omega⟩⟩
 |k+1,hd=>by
  obtain⟨N,hN,hv⟩:=elim R k (fun t ht=>hd t (by omega));obtain⟨r,hr0,hr⟩:=hv (R k);have hrk:r k*dk R k=N*dk R (k+1):=by
   have:=hr k (ae _) (k::pK k);rw[dc,mp (pK k) _ (fun c hc=>hr0 c (jI hc))]at this;rw[bT,bk,<- this,dk];omega
  have hne:r k≠0:=by
   intro e;rw[e,Int.zero_mul]at hrk;rcases Int.mul_eq_zero.1 hrk.symm with h|h
   ·exact hN h
   exact hd k (by omega) h
  refine⟨r k*N,Int.mul_ne_zero hne hN,fun v=>?_⟩;obtain⟨v',hv0,hv'⟩:=hv v;refine⟨fun c=>r k*v' c+(- v' k)*r c,fun c hc=>?_,fun m hm cs=>?_⟩
  ·by_cases e:c=k
   ·subst e;grind
   show r k*v' c+ -v' k*r c=0;rw[hv0 c (by omega),hr0 c (by omega)];simp
  rw[DY,hv' m (by omega),hr m (by omega),Ec R (show k<m by omega)];grind
theorem sylv (R:FF) (k:Nat) (hd: ∀t,t<k->dk R (t+1)≠0) (i j:Nat):
  dk R k*bk R (k+1) i j=dk R (k+1)*bk R k i j-bk R k i k*bk R k k j:=by
 obtain⟨N,hN,hv⟩:=elim R k hd;obtain⟨v,hv0,hv1⟩:=hv (R i);obtain⟨u,hu0,hu1⟩:=hv (R k);have hone: ∀{x:Nat->Int} {t:Nat},(∀c,c<k->x c=0)->(∀m,k<=m-> ∀cs,dc x (om R m) cs=N*dc (R t) (om R m) cs)-> ∀j,N*bk R k t j=x j*dk R k:=by
  intro x t h0 h1 j;rw[bk,<- h1 k (ae _),dc,mp (pK k) _ (fun c hc=>h0 c (jI hc)),dk];omega
 have hA:=hone hv0 hv1;have hB:=hone hu0 hu1;have h2:dc v (dc u (om R k)) (j::k::pK k)=N*N*bk R (k+1) i j:=by
  have e1:dc u (om R k)=fun l=>N*dc (R k) (om R k) l+0*0:=by funext l;rw[hu1 k (ae _)];omega
  have e2:dc v (dc u (om R k)) (j::k::pK k)=N*dc v (om R (k+1)) (j::k::pK k):=by
   rw[e1];have:=sV v N 0 (j::k::pK k) (dc (R k) (om R k)) (fun _=>0);simp only[om];rw[this];omega
  rw[e2,hv1 (k+1) (by omega),bk,pK,Int.mul_assoc]
 have h3:dc v (dc u (om R k)) (j::k::pK k)=(v j*u k-v k*u j)*dk R k:=by
  have van: ∀{x:Nat->Int} (f:List Nat->Int),(∀c,c<k->x c=0)->dc x f (pK k)=0:=fun f h=>mp (pK k) f (fun c hc=>h c (jI hc))
  simp only[dc,van _ hv0,van _ hu0,dk];grind
 have h4:=h2.symm.trans h3;have hNN:N*N≠0:=Int.mul_ne_zero hN hN;apply Int.eq_of_mul_eq_mul_left hNN;have a1:=hA j;have a2:=hA k;have b1:=hB j;have b2:=hB k;rw[bT];grind
def AZ (x:List Int):Bool:=x.all fun c=>decide (-1099511627776<=c)&&decide (c<=1099511627776)
theorem u5 {x:List Int} {k:Nat} {c:Int} (h:x[k]?=some c) (hc:c< -1099511627776\/1099511627776<c):AZ x=false:=by
 unfold AZ;rw[List.all_eq_false];exact⟨c,List.mem_of_getElem? h,by simp;omega⟩
theorem Hg {x:List Int} {k:Nat} (hk:x.length<=k) (h: ∀j c,j<k->x[j]?=some c-> -1099511627776<=c/\c<=1099511627776):AZ x=true:=by
 unfold AZ;rw[List.all_eq_true];intro c hc;obtain⟨j,hj,rfl⟩:=List.getElem_of_mem hc;have:=h j _ (by omega) (List.getElem?_eq_getElem hj);simp;omega
theorem wE {α:Type} {x:List α} {k:Nat} {P:α->Prop} {c:α} (h: ∀j c,j<k->x[j]?=some c->P c) (hk:x[k]?=some c) (hc:P c): ∀j c,j<k+1->x[j]?=some c->P c:=by
 intro j d hj hd;by_cases e:j=k
 ·subst e;rw[hk]at hd;cases hd;exact hc
 exact h j d (by omega) hd
theorem jq (A:Option Addr) (c:Nat) (x:List Int) (w:World) (hx:RdI .i64 w A x) (lx:x.length<=9223372036854775807):
  Calls Tryz.prog 163 #[.slice A x.length c] w fun e w'=>e= .returned (.bool (AZ x))/\w=w':=by
 have HX:=Lib.hid hx;clear hx
 go_enter Tryz.func163,Tryz.ntmps163
 go_wp2_with fail
 go_loop [7,4] (fun i _=> ∃k:Nat,k<=x.length/\i= .int .i64 k/\Hid (∀j c,j<k->x[j]?=some c-> -1099511627776<=c/\c<=1099511627776)) (fun i _=>x.length-(intOf i).toNat)
 case atStart=>exact⟨0,Nat.zero_le _,rfl,Lib.hid (fun j c h=>by omega)⟩
 case round=>
  obtain⟨k,hk,rfl,HR⟩:=hrel;by_cases hlt:k<x.length
  ·obtain⟨a,ha⟩:=getElem?_of_lt hlt;obtain⟨b,off,rfl,hc⟩:=HX.out.at_ ha;have HA:=Lib.hid ha;clear ha;by_cases h1:a< -1099511627776
   ·go_wp2_with fail
    go_ret
    exact⟨fk (u5 HA.out (.inl h1)).symm,rfl⟩
   by_cases h2:1099511627776<a
   ·go_wp2_with fail
    go_ret
    exact⟨fk (u5 HA.out (.inr h2)).symm,rfl⟩
   go_wp2_with fail
   go_round
   case rel=>exact⟨k+1,by omega,by go_num,Lib.hid (wE (P:=fun c=> -1099511627776<=c/\c<=1099511627776) HR.out HA.out (by omega))⟩
   case measure=>simp[intOf];omega
  go_wp2_with fail
  go_ret
  exact⟨fk (Hg (by omega) HR.out).symm,rfl⟩
def uF (n:Int) (x:List Int):Bool:=decide ((x.length:Int)=n)&&AZ x
theorem zd (n:Int) (A:Option Addr) (c:Nat) (x:List Int) (w:World) (hx:RdI .i64 w A x) (lx:x.length<=9223372036854775807):
  Calls Tryz.prog 116 #[.int .i64 n,.slice A x.length c] w fun e w'=>e= .returned (.bool (uF n x))/\w=w':=by
 by_cases h:(x.length:Int)=n
 ·have hB:((x.length:Int)==n)=true:=by simp[h]
  go_enter Tryz.func116,Tryz.ntmps116
  have HH:=Lib.hid h;clear h
  go_wp2_with (go_at_call 163;refine(jq A c x _ hx lx).mono ?_;rintro e w' ⟨rfl,rfl⟩)
  go_ret
  exact⟨fk (by simp[uF,HH.out]),rfl⟩
 have hB:((x.length:Int)==n)=false:=by simp[h]
 go_enter Tryz.func116,Tryz.ntmps116
 go_wp2_with fail
 go_ret
 exact⟨fk (by simp[uF,h]),rfl⟩
def ent (rows:List (List Int)) (i j:Nat):Int:=(rows.getD i []).getD j 0
theorem nj {rows:List (List Int)} {i j:Nat} {r:List Int} {a:Int} (h:rows[i]?=some r) (h':r[j]?=some a):ent rows i j=a:=by
 simp[ent,List.getD_eq_getElem?_getD,h,h']
def jF (rows:List (List Int)) (i j:Nat):Prop:=ent rows i j=ent rows j i/\ -262144<ent rows i j/\ent rows i j<262144
def io (rows:List (List Int)):Prop:=
 1<=rows.length/\rows.length<=8/\(∀i,i<rows.length->(rows.getD i []).length=rows.length)/\ ∀i,i<rows.length-> ∀j,j<rows.length->jF rows i j
instance (rows:List (List Int)) (i j:Nat):Decidable (jF rows i j):=inferInstanceAs (Decidable (_/\_))
instance (rows:List (List Int)):Decidable (io rows):=inferInstanceAs (Decidable (_/\_/\_/\_))
theorem xL {p:Prop} [Decidable p] (h:p):Ending.returned (.bool true)= .returned (.bool (decide p)):=by simp[h]
theorem dE {p:Prop} [Decidable p] (h: ¬p):Ending.returned (.bool false)= .returned (.bool (decide p)):=by simp[h]
theorem qG (A:Option Addr) (c:Nat) (rows:List (List Int)) (w:World) (hx:pC .i64 w A rows) (lx:rows.length<=9223372036854775807):
  Calls Tryz.prog 85 #[.slice A rows.length c] w fun e w'=>e= .returned (.bool (decide (io rows)))/\w=w':=by
 have HX:=Lib.hid hx;clear hx
 go_enter Tryz.func85,Tryz.ntmps85
 by_cases hn1:rows.length<1
 ·go_wp2_with fail
  go_ret
  exact⟨dE (fun h=>by have:=h.1;omega),rfl⟩
 by_cases hn8:8<rows.length
 ·go_wp2_with fail
  go_ret
  exact⟨dE (fun h=>by have:=h.2.1;omega),rfl⟩
 go_wp2_with fail
 go_loop [20,5] (fun i _=> ∃k:Nat,k<=rows.length/\i= .int .i64 k/\Hid (∀i,i<k->(rows.getD i []).length=rows.length)) (fun i _=>rows.length-(intOf i).toNat)
 case atStart=>exact⟨0,Nat.zero_le _,rfl,Lib.hid (fun j h=>by omega)⟩
 case round=>
  obtain⟨k,hk,rfl,HR⟩:=hrel;by_cases hlt:k<rows.length
  ·obtain⟨r,ha⟩:=getElem?_of_lt hlt;obtain⟨b,off,B,cr,rfl,hc,hcr,hlr,hr⟩:=HX.out.at_ ha;have HA:=Lib.hid ha;clear ha hr;by_cases h1:r.length=rows.length
   ·have h1':((r.length:Int) !=(rows.length:Int))=false:=by simp[h1]
    have H1:=Lib.hid h1;clear h1
    go_wp2_with fail
    go_round
    case rel=>
     exact⟨k+1,by omega,by go_num,Lib.hid (fun i hi=>by
      by_cases e:i=k
      ·subst e;rw[List.getD_eq_getElem?_getD,HA.out];exact H1.out
      exact HR.out i (by omega))⟩
    case measure=>simp[intOf];omega
   have h1':((r.length:Int) !=(rows.length:Int))=true:=by simp;omega
   go_wp2_with fail
   go_ret
   exact⟨dE (fun h=>by have:=h.2.2.1 k hlt;rw[List.getD_eq_getElem?_getD,HA.out]at this;exact h1 this),rfl⟩
  have HL:Hid (∀i,i<rows.length->(rows.getD i []).length=rows.length):=Lib.hid (fun i hi=>HR.out i (by omega));clear HR
  go_wp2_with fail
  go_loop [31,6,7,8,9] (fun i _ _ _ _=> ∃k:Nat,k<=rows.length/\i= .int .i64 k/\Hid (∀i,i<k-> ∀j,j<rows.length->jF rows i j)) (fun i _ _ _ _=>rows.length-(intOf i).toNat)
  case atStart=>exact⟨0,Nat.zero_le _,rfl,Lib.hid (fun j h=>by omega)⟩
  case round=>
   obtain⟨k,hk,rfl,HR⟩:=hrel;by_cases hlt:k<rows.length
   ·obtain⟨r,ha⟩:=getElem?_of_lt hlt;obtain⟨b,off,B,cr,rfl,hc,hcr,hlr,hr⟩:=HX.out.at_ ha;have hrl:r.length=rows.length:=by have:=HL.out k hlt;rw[List.getD_eq_getElem?_getD,ha]at this;exact this
    have HA:=Lib.hid ha;have HRR:=Lib.hid hr;have HRL:=Lib.hid hrl;clear ha hr hrl
    go_wp2_with fail
    go_loop [38,8,9] (fun i _ _=> ∃l:Nat,l<=rows.length/\i= .int .i64 l/\Hid (∀j,j<l->jF rows k j)) (fun i _ _=>rows.length-(intOf i).toNat)
    case atStart=>exact⟨0,Nat.zero_le _,rfl,Lib.hid (fun j h=>by omega)⟩
    case round=>
     obtain⟨l,hl,rfl,HQ⟩:=hrel;by_cases hll:l<rows.length
     ·obtain⟨a,ha⟩:=getElem?_of_lt (l:=r) (k:=l) (by rw[HRL.out];exact hll);obtain⟨b2,off2,rfl,hc2⟩:=HRR.out.at_ ha;have HA2:=Lib.hid ha;clear ha;obtain⟨r3,ha3⟩:=getElem?_of_lt hll;obtain⟨b3,off3,B3,cr3,h33,hc3,hcr3,hlr3,hr3⟩:=HX.out.at_ ha3;cases h33;have hrl3:r3.length=rows.length:=by have:=HL.out l hll;rw[List.getD_eq_getElem?_getD,ha3]at this;exact this
      obtain⟨a4,ha4⟩:=getElem?_of_lt (l:=r3) (k:=k) (by rw[hrl3];exact hlt);obtain⟨b4,off4,rfl,hc4⟩:=hr3.at_ ha4;have hlr4:k<r3.length:=by omega
      have hlr5:l<r.length:=by rw[HRL.out];exact hll
      have HA3:=Lib.hid ha3;have HA4:=Lib.hid ha4;have E1:=Lib.hid (nj HA.out HA2.out);have E2:=Lib.hid (nj HA3.out HA4.out);clear ha3 hr3 hrl3 ha4;by_cases g1:a=a4
      ·have g1':(a !=a4)=false:=by simp[g1]
       have G1:=Lib.hid g1;clear g1;by_cases g2:a<= -262144
       ·go_wp2_with fail
        go_ret
        exact⟨dE (fun h=>by have:=h.2.2.2 k hlt l hll;unfold jF at this;rw[E1.out]at this;omega),rfl⟩
       by_cases g3:262144<=a
       ·go_wp2_with fail
        go_ret
        exact⟨dE (fun h=>by have:=h.2.2.2 k hlt l hll;unfold jF at this;rw[E1.out]at this;omega),rfl⟩
       go_wp2_with fail
       go_round
       case rel=>
        exact⟨l+1,by omega,by go_num,Lib.hid (fun j hj=>by
         by_cases e:j=l
         ·subst e;unfold jF;rw[E1.out,E2.out,<- G1.out];omega
         exact HQ.out j (by omega))⟩
       case measure=>simp[intOf];omega
      have g1':(a !=a4)=true:=by simp[g1]
      go_wp2_with fail
      go_ret
      exact⟨dE (fun h=>by have:=h.2.2.2 k hlt l hll;unfold jF at this;rw[E1.out,E2.out]at this;exact g1 this.1),rfl⟩
     have hd:((l:Int)<(r.length:Int))=False:=by rw[HRL.out];simp;omega
     have hle:r.length<=l:=by rw[HRL.out];omega
     clear hd
     go_wp2_with fail
     go_round
     case rel=>
      exact⟨k+1,by omega,by go_num,Lib.hid (fun i hi j hj=>by
       by_cases e:i=k
       ·subst e;exact HQ.out j (by omega)
       exact HR.out i (by omega) j hj)⟩
     case measure=>simp[intOf];omega
   go_wp2_with fail
   go_ret
   exact⟨xL ⟨by omega,by omega,HL.out,fun i hi j hj=>HR.out i (by omega) j hj⟩,rfl⟩
def mY (rows:List (List Int)) (i:Nat):Prop:=wrap64 (2*ent rows i 0)<=ent rows 0 0/\wrap64 (-2*ent rows i 0)<=ent rows 0 0
def kp (rows:List (List Int)):Prop:=
 0<ent rows 0 0/\ent rows 0 0<65536/\ ∀i,i<rows.length->1<=i->mY rows i
instance (rows:List (List Int)) (i:Nat):Decidable (mY rows i):=inferInstanceAs (Decidable (_/\_))
instance (rows:List (List Int)):Decidable (kp rows):=inferInstanceAs (Decidable (_/\_/\_))
theorem kW (A:Option Addr) (c:Nat) (rows:List (List Int)) (w:World) (hx:pC .i64 w A rows) (lx:rows.length<=9223372036854775807) (hcap:rows.length<=c)
  (hn:2<=rows.length) (hne: ∀i,i<rows.length->1<=(rows.getD i []).length):
  Calls Tryz.prog 86 #[.slice A rows.length c] w fun e w'=>e= .returned (.bool (decide (kp rows)))/\w=w':=by
 have HX:=Lib.hid hx;have HNE:=Lib.hid hne;clear hx hne;obtain⟨r,ha⟩:=getElem?_of_lt (l:=rows) (k:=0) (by omega);obtain⟨b,off,B,cr,rfl,hc,hcr,hlr,hr⟩:=HX.out.at_ ha;have hrl:1<=r.length:=by have:=HNE.out 0 (by omega);rw[List.getD_eq_getElem?_getD,ha]at this;exact this
 obtain⟨d,hd⟩:=getElem?_of_lt (l:=r) (k:=0) hrl;obtain⟨b2,off2,rfl,hc2⟩:=hr.at_ hd;have E0:=Lib.hid (nj ha hd);clear ha hd hr;rw[ao]at hc hc2
 go_enter Tryz.func86,Tryz.ntmps86
 by_cases g1:d<=0
 ·go_wp2_with fail
  go_ret
  exact⟨dE (fun h=>by have:=h.1;rw[E0.out]at this;omega),rfl⟩
 by_cases g2:65536<=d
 ·go_wp2_with fail
  go_ret
  exact⟨dE (fun h=>by have:=h.2.1;rw[E0.out]at this;omega),rfl⟩
 go_wp2_with fail
 go_loop [20,5] (fun i _=> ∃k:Nat,k<=rows.length-1/\i= .int .i64 k/\Hid (∀i,i<k+1->1<=i->mY rows i)) (fun i _=>rows.length-(intOf i).toNat)
 case atStart=>exact⟨0,Nat.zero_le _,rfl,Lib.hid (fun j h h'=>by omega)⟩
 case round=>
  obtain⟨k,hk,rfl,HR⟩:=hrel;by_cases hlt:k<rows.length-1
  ·obtain⟨r3,ha3⟩:=getElem?_of_lt (l:=rows) (k:=k+1) (by omega);obtain⟨b3,off3,B3,cr3,h33,hc3,hcr3,hlr3,hr3⟩:=HX.out.at_ ha3;cases h33;rw[show off+(k+1)=off+1+k from by omega]at hc3;have hrl3:1<=r3.length:=by have:=HNE.out (k+1) (by omega);rw[List.getD_eq_getElem?_getD,ha3]at this;exact this
   obtain⟨a,ha⟩:=getElem?_of_lt (l:=r3) (k:=0) hrl3;obtain⟨b4,off4,rfl,hc4⟩:=hr3.at_ ha;rw[ao]at hc4;have E1:=Lib.hid (nj ha3 ha);clear ha3 hr3 ha;by_cases g3:d<wrap64 (2*a)
   ·go_wp2_with fail
    go_ret
    exact⟨dE (fun h=>by have:=h.2.2 (k+1) (by omega) (by omega);unfold mY at this;rw[E0.out,E1.out]at this;omega),rfl⟩
   by_cases g4:d<wrap64 (-2*a)
   ·go_wp2_with fail
    go_ret
    exact⟨dE (fun h=>by have:=h.2.2 (k+1) (by omega) (by omega);unfold mY at this;rw[E0.out,E1.out]at this;omega),rfl⟩
   go_wp2_with fail
   go_round
   case rel=>
    exact⟨k+1,by omega,by go_num,Lib.hid (fun i hi hi'=>by
     by_cases e:i=k+1
     ·subst e;unfold mY;rw[E0.out,E1.out];omega
     exact HR.out i (by omega) hi')⟩
   case measure=>simp[intOf];omega
  go_wp2_with fail
  go_ret
  exact⟨xL ⟨by rw[E0.out];omega,by rw[E0.out];omega,fun i hi hi'=>HR.out i (by omega) hi'⟩,rfl⟩
theorem Tryz.infoI64:(Tryz.prog.info? 2).map (fun i=>(i.zero,i.size,i.bytes))=some (some (.int .i64 0),1,8):=by kernel_rfl
theorem Tryz.infoSlI64:(Tryz.prog.info? 35).map (fun i=>(i.zero,i.size,i.bytes))=some (some (.slice none 0 0),1,24):=by kernel_rfl
def MH (stg:List (List Int)) (last:Int) (i j:Nat):Int:=
 wrap64 (Int.tdiv (wrap64 (wrap64 (ent stg 0 0*ent stg (i+1) (j+1))-wrap64 (ent stg (i+1) 0*ent stg 0 (j+1)))) last)
def MJ (stg:List (List Int)) (last:Int):List (List Int):=kH (stg.length-1) (stg.length-1) (MH stg last)
def A5 (stg:List (List Int)) (last:Int):Prop:=
 wrap64 (4*wrap64 (wrap64 (last*MH stg last 0 0)+wrap64 (ent stg 1 0*ent stg 1 0)))<wrap64 (3*ent stg 0 0*ent stg 0 0)
instance (stg:List (List Int)) (last:Int):Decidable (A5 stg last):=inferInstanceAs (Decidable (_<_))
def o7:Nat->List (List Int)->Int->Bool
 |0,_,_=>false
 |f+1,stg,last=>
  if stg.length<=1 then decide (0<ent stg 0 0)&&decide (ent stg 0 0<=10000)
  else if kp stg then(if A5 stg last then false else o7 f (MJ stg last) (ent stg 0 0))else false
def isReducedM (rows:List (List Int)):Bool:=decide (io rows)&&o7 rows.length rows 1
def Ou:Value->Nat| .slice _ n _=>n|_=>0
def Sq (rows:List (List Int)):Prop:= ∀i,i<rows.length->(rows.getD i []).length=rows.length
theorem Sq.at_ {rows:List (List Int)} (h:Sq rows) {i:Nat} {r:List Int} (hi:rows[i]?=some r):r.length=rows.length:=by
 have hlt:i<rows.length:=by
  rcases Nat.lt_or_ge i rows.length with hl|hg
  ·exact hl
  rw[au hg]at hi;cases hi
 have:=h i hlt;rw[List.getD_eq_getElem?_getD,hi]at this;exact this
theorem Sq.nx (stg:List (List Int)) (last:Int):Sq (MJ stg last):=by
 intro i hi;unfold MJ at*
 rw[jN]at*
 simp[kH,List.getD_eq_getElem?_getD,hi]
theorem pC.ent_ {w:World} {A:Option Addr} {rows:List (List Int)} (h:pC .i64 w A rows) (hs:Sq rows) {i j:Nat} (hi:i<rows.length) (hj:j<rows.length):
  ∃b off b2 off2 c,A=some ⟨b,off,none⟩/\w.cell? ⟨b,off+i,none⟩=some (.slice (some ⟨b2,off2,none⟩) rows.length c)/\rows.length<=c/\w.cell? ⟨b2,off2+j,none⟩=some (.int .i64 (ent rows i j)):=by
 obtain⟨r,ha⟩:=getElem?_of_lt hi;obtain⟨b,off,B,cr,rfl,hc,hcr,hlr,hr⟩:=h.at_ ha;have hl:=hs.at_ ha;obtain⟨a,ha2⟩:=getElem?_of_lt (l:=r) (k:=j) (by omega);obtain⟨b2,off2,rfl,hc2⟩:=hr.at_ ha2;exact⟨b,off,b2,off2,cr,rfl,by rw[<- hl];exact hc,by omega,by rw[nj ha ha2];exact hc2⟩
theorem pC.row_ {w:World} {A:Option Addr} {rows:List (List Int)} (h:pC .i64 w A rows) (hs:Sq rows) {i:Nat} (hi:i<rows.length):
  ∃b off b2 off2 c,A=some ⟨b,off,none⟩/\w.cell? ⟨b,off+i,none⟩=some (.slice (some ⟨b2,off2,none⟩) rows.length c)/\rows.length<=c/\ ∀j,j<rows.length->w.cell? ⟨b2,off2+j,none⟩=some (.int .i64 (ent rows i j)):=by
 obtain⟨r,ha⟩:=getElem?_of_lt hi;obtain⟨b,off,B,cr,rfl,hc,hcr,hlr,hr⟩:=h.at_ ha;have hl:=hs.at_ ha;obtain⟨b2,off2,rfl,hc2⟩:=hr (by
  intro e;have:=congrArg List.length e;simp at this;subst this;simp at hl;omega)
 refine⟨b,off,b2,off2,cr,rfl,by rw[<- hl];exact hc,by omega,fun j hj=>?_⟩;obtain⟨a,ha2⟩:=getElem?_of_lt (l:=r) (k:=j) (by omega);rw[nj ha ha2];exact hc2 j _ (by simp[ha2])
theorem jJ (A:Option Addr) (c:Nat) (rows:List (List Int)) (w:World) (hx:pC .i64 w A rows) (lx:rows.length<=9223372036854775807) (hcap:rows.length<=c):
  Calls Tryz.prog 36 #[.slice A rows.length c] w fun e w'=>e= .returned (.bool (isReducedM rows))/\Ext w w':=by
 have HX:=Lib.hid hx;clear hx;by_cases hS:io rows
 ·have hSd:decide (io rows)=true:=by simp[hS]
  have HS:=Lib.hid hS;have hn1:1<=rows.length:=hS.1;have hn8:rows.length<=8:=hS.2.1;have HF:Hid (isReducedM rows=o7 rows.length rows 1):=Lib.hid (by simp[isReducedM,hS]);clear hS
  go_enter Tryz.func36,Tryz.ntmps36
  go_wp2_with (go_at_call 85;refine(qG A c rows _ HX.out lx).mono ?_;rintro e w' ⟨rfl,rfl⟩)
  clear hSd
  go_loopw [3,4,5,6,7,8,9,10] (fun s l _ _ _ _ _ _ wr=> ∃(B:Option Addr) (cap:Nat) (stg:List (List Int)) (last:Int),s= .slice B stg.length cap/\l= .int .i64 last/\1<=stg.length/\stg.length<=8/\stg.length<=cap/\1<=last/\last<65536/\Hid (Sq stg)/\Hid (pC .i64 wr B stg)/\Hid (Ext w wr)/\Hid (o7 stg.length stg last=o7 rows.length rows 1))
   (fun s _ _ _ _ _ _ _ _=>Ou s)
  case atStart=>exact⟨A,c,rows,1,rfl,rfl,hn1,hn8,hcap,by omega,by omega,Lib.hid HS.out.2.2.1,HX,Lib.hid (Ext.refl _),Lib.hid rfl⟩
  case round=>
   clear HX HS hn1 hn8 hcap;obtain⟨B,cap,stg,last,rfl,rfl,h1,h8,hcap,hl0,hl1,HSq,HR,HE,HQ⟩:=hrel;by_cases hlen:1<stg.length
   ·obtain⟨b,off,b2,off2,c2,rfl,hc1,hcap2,hc2⟩:=HR.out.ent_ HSq.out (i:=0) (j:=0) (by omega) (by omega);rw[ao]at hc1 hc2;by_cases hP:kp stg
    ·have hPd:decide (kp stg)=true:=by simp[hP]
     have hd0:0<ent stg 0 0:=hP.1;have hd1:ent stg 0 0<65536:=hP.2.1;have HP:=Lib.hid hP;clear hP;obtain⟨m,hm⟩: ∃m,stg.length=m+1:=⟨stg.length-1,by omega⟩;have hm1:1<=m:=by omega
     have hm8:m<=7:=by omega
     have hmk0:=run_make_row' (P:=Tryz.prog) 26 35 (.slice none 0 0) 24 Tryz.underlying26 Tryz.infoSlI64 rfl .i64 .i64 m (by omega) (by omega);have hmk1:=run_make_row' (P:=Tryz.prog) 35 2 (.int .i64 0) 8 Tryz.underlying35 Tryz.infoI64 rfl .i64 .i64 m (by omega) (by omega);have hsub:((stg.length:Int)-1)=(m:Int):=by omega
     have hmkA: ∀w:World,(Instr.makeSlice 26 (.int .i64 ((stg.length:Int)-1)) (.int .i64 ((stg.length:Int)-1))).run Tryz.prog w= .ok (.slice (some ⟨w.heap.size,0,none⟩) m m) (w.alloc (.cells (madeCells #[.slice none 0 0] m) 35)):=by rw[hsub];exact hmk0
     clear hmk0 hsub;have HM:=Lib.hid hm;have hmle:m<stg.length:=by omega
     have hmge:stg.length<=m+1:=by omega
     clear hm
     go_wp2_with (go_at_call 86;refine(kW _ cap stg _ HR.out (by omega) hcap (by omega) (fun i hi=>by rw[HSq.out i hi];omega)).mono ?_;rintro e w' ⟨rfl,rfl⟩)
     clear hmkA hPd;obtain⟨wo,rfl⟩: ∃wo:World,wo=wr:=⟨_,rfl⟩
     go_loopw [32,7,8,9] (fun i _ _ _ wx=> ∃(r:Nat) (g:Nat->Nat),r<=m/\i= .int .i64 r/\Hid (N7 wo wx 35 2 m m r g (fun i j=> .int .i64 (MH stg last i j)))) (fun i _ _ _ _=>m-(intOf i).toNat)
     case atStart=>exact⟨0,fun _=>0,Nat.zero_le _,rfl,Lib.hid (FK wo _ _ m m _ _)⟩
     case round=>
      obtain⟨r,g,hr,rfl,HO⟩:=hrel;by_cases hrm:r<m
      ·have hbw:b<wo.heap.size:=wX (p:=⟨b,off,none⟩) hc1;obtain⟨b',off',b3,off3,c3,hbb,hc3,hcap3,hrow⟩:=HR.out.row_ HSq.out (i:=r+1) (by omega);cases hbb;have g0:wr.cell? ⟨b,off+(r+1),none⟩=some (.slice (some ⟨b3,off3,none⟩) stg.length c3):=HO.out.ext.cell hc3;have hst1: ∀o,(wr.alloc o).cell? ⟨wo.heap.size,r,none⟩=some (.slice none 0 0):=fun o=>by
        have:=(HO.out.top.alloc o).cell hrm;rw[this];simp
       have hst2: ∀o,(wr.alloc o).frozen? ⟨wo.heap.size,r,none⟩=false:=fun o=>(HO.out.top.alloc o).frozen r
       have HRow:=Lib.hid hrow;clear hrow
       go_wp2_with fail
       have HI0:=Lib.hid (FJ (.int .i64 0) HO.out);clear hst1 hst2 g0 hmk1;obtain⟨g',HI,hg'⟩: ∃g':Nat->Nat,Hid (Lt wo ((wr.alloc (.cells (madeCells #[.int .i64 0] m) 2)).setCell ⟨wo.heap.size,r,none⟩ (.slice (some ⟨wr.heap.size,0,none⟩) m m)) 35 2 m m r 0 g' (fun i j=> .int .i64 (MH stg last i j)) (.int .i64 0))/\Hid (g' r=wr.heap.size):=⟨_,HI0,Lib.hid (by simp)⟩;clear HI0
       go_loopw [48,9] (fun i _ wx=> ∃(l:Nat),l<=m/\i= .int .i64 l/\Hid (Lt wo wx 35 2 m m r l g' (fun i j=> .int .i64 (MH stg last i j)) (.int .i64 0))) (fun i _ _=>m-(intOf i).toNat)
       case atStart=>exact⟨0,Nat.zero_le _,rfl,HI⟩
       case round=>
        clear HI;obtain⟨l,hl,rfl,HI⟩:=hrel;by_cases hlm:l<m
        ·have t1:wr.cell? ⟨wo.heap.size,r,none⟩=some (.slice (some ⟨g' r,0,none⟩) m m):=by rw[HI.out.top.cell hrm,if_pos (by omega)]
         have t2:wr.cell? ⟨b3,off3+(l+1),none⟩=some (.int .i64 (ent stg (r+1) (l+1))):=HI.out.ext.cell (HRow.out (l+1) (by omega));have t3:wr.cell? ⟨b3,off3,none⟩=some (.int .i64 (ent stg (r+1) 0)):=HI.out.ext.cell (HRow.out 0 (by omega));have t4:wr.cell? ⟨b,off,none⟩=some (.slice (some ⟨b2,off2,none⟩) stg.length c2):=HI.out.ext.cell hc1;have t5:wr.cell? ⟨b2,off2+(l+1),none⟩=some (.int .i64 (ent stg 0 (l+1))):=by
          obtain⟨b',off',b4,off4,c4,hbb,hc4,_,hrow4⟩:=HR.out.row_ HSq.out (i:=0) (by omega);cases hbb;rw[ao,hc1]at hc4;injection hc4 with hc4
          injection hc4 with hc4 _ _
          injection hc4 with hc4
          injection hc4 with e1 e2 _
          subst e1 e2;exact HI.out.ext.cell (hrow4 (l+1) (by omega))
         have t6:wr.cell? ⟨g' r,l,none⟩=some (.int .i64 0):=by rw[HI.out.cur.cell hlm,if_neg (by omega)]
         have t7:wr.frozen? ⟨g' r,l,none⟩=false:=HI.out.cur.frozen l;have hl2:(l:Int)+1<(stg.length:Int):=by omega
         have hl3:l+1<stg.length:=by omega
         have hlast:(last==0)=false:=by simp;omega
         go_wp2_with fail
         go_big_region
         go_wp2_with fail
         go_roundw
         case rel=>exact⟨l+1,by omega,by go_num,Lib.hid ((Jx HI.out rfl).drew)⟩
         case measure=>simp[intOf];omega
        go_wp2_with fail
        go_roundw
        case rel=>exact⟨r+1,g',by omega,by go_num,Lib.hid (Jw HI.out (by omega))⟩
        case measure=>simp[intOf];omega
      have hrm':m<=r:=by omega
      have u0:wr.cell? ⟨wo.heap.size,0,none⟩=some (.slice (some ⟨g 0,0,none⟩) m m):=by rw[HO.out.top.cell (by omega),if_pos (by omega)]
      have u1:wr.cell? ⟨g 0,0,none⟩=some (.int .i64 (MH stg last 0 0)):=by rw[(HO.out.done 0 (by omega)).cell (by omega)]
      obtain⟨b',off',b3,off3,c3,hbb,hc3,hcap3,hrow⟩:=HR.out.row_ HSq.out (i:=1) (by omega);cases hbb;have u2':wr.cell? ⟨b,off+1,none⟩=some (.slice (some ⟨b3,off3,none⟩) stg.length c3):=HO.out.ext.cell hc3;have u3:wr.cell? ⟨b3,off3,none⟩=some (.int .i64 (ent stg 1 0)):=HO.out.ext.cell (by have:=hrow 0 (by omega);rw[ao]at this;exact this);clear hrow hmk1;by_cases hL:A5 stg last
      ·have hL':=hL;unfold A5 at hL'
       go_wp2_with fail
       go_ret
       exact⟨fk (by
        rw[HF.out,<- HQ.out];obtain⟨f,hf⟩: ∃f,stg.length=f+1:=⟨stg.length-1,by omega⟩;rw[hf,o7,if_neg (by omega),if_pos HP.out,if_pos hL]),HE.out.trans HO.out.ext⟩
      have hL':=hL;unfold A5 at hL'
      go_wp2_with fail
      go_roundw
      case rel=>
       have hlen2:(MJ stg last).length=m:=by unfold MJ;rw[jN,HM.out];rfl
       refine⟨some ⟨wo.heap.size,0,none⟩,m,MJ stg last,ent stg 0 0,by rw[hlen2],rfl,by omega,by omega,by omega,by omega,by omega,Lib.hid (Sq.nx _ _),Lib.hid ?_,Lib.hid (HE.out.trans HO.out.ext),Lib.hid ?_⟩
       ·have:=HO.out.rd hrm' (by omega);unfold MJ;rw[HM.out];exact this
       rw[<- HQ.out,hlen2]
       conv=>rhs;rw[HM.out,o7,if_neg (by omega),if_pos HP.out,if_neg hL]
      case measure=>simp[Ou];omega
    have hPd:decide (kp stg)=false:=by simp[hP]
    have HF2:Hid (o7 stg.length stg last=false):=Lib.hid (by
     obtain⟨f,hf⟩: ∃f,stg.length=f+1:=⟨stg.length-1,by omega⟩;rw[hf,o7,if_neg (by omega),if_neg hP])
    go_wp2_with (go_at_call 86;refine(kW _ cap stg _ HR.out (by omega) hcap (by omega) (fun i hi=>by rw[HSq.out i hi];omega)).mono ?_;rintro e w' ⟨rfl,rfl⟩)
    go_ret
    exact⟨fk (by rw[HF.out,<- HQ.out,HF2.out]),HE.out⟩
   have hst:stg.length=1:=by omega
   obtain⟨b,off,b2,off2,c2,rfl,hc1,hcap2,hc2⟩:=HR.out.ent_ HSq.out (i:=0) (j:=0) (by omega) (by omega);rw[ao]at hc1 hc2;have HF2:Hid (o7 stg.length stg last=(decide (0<ent stg 0 0)&&decide (ent stg 0 0<=10000))):=Lib.hid (by rw[hst,o7,if_pos (by omega)]);clear hst;by_cases h0:0<ent stg 0 0
   ·go_wp2_with fail
    go_ret
    exact⟨fk (by rw[HF.out,<- HQ.out,HF2.out];simp[h0]),HE.out⟩
   have h0':decide (0<ent stg 0 0)=false:=by simpa using h0
   go_wp2_with fail
   go_ret
   exact⟨fk (by rw[HF.out,<- HQ.out,HF2.out,decide_eq_false (by omega)];rfl),HE.out⟩
 have hSd:decide (io rows)=false:=by simp[hS]
 go_enter Tryz.func36,Tryz.ntmps36
 go_wp2_with (go_at_call 85;refine(qG A c rows _ HX.out lx).mono ?_;rintro e w' ⟨rfl,rfl⟩)
 go_ret
 exact⟨fk (by simp[isReducedM,hS]),Ext.refl _⟩
def n4 (row x:List Int):Nat->Int
 |0=>0
 |l+1=>wrap64 (n4 row x l+wrap64 (row.getD l 0*x.getD l 0))
def eF (rows:List (List Int)) (x:List Int):List Int:=rows.map fun row=>n4 row x row.length
theorem vo {rows:List (List Int)} {x:List Int} {i:Nat} {z:Int} (h:(eF rows x)[i]?=some z): ∃row,rows[i]?=some row/\z=n4 row x row.length:=by
 unfold eF at h;rw[List.getElem?_map]at h;cases hr:rows[i]? with
 |none=>rw[hr]at h;cases h
 |some row=>rw[hr]at h;simp at h;exact⟨row,rfl,h.symm⟩
def Od (rows:List (List Int)) (x:List Int) (r l:Nat):Nat->Value:=
 fun j=>if j<r then .int .i64 (n4 (rows.getD j []) x (rows.getD j []).length)else if j=r then .int .i64 (n4 (rows.getD j []) x l)else .int .i64 0
theorem pJ {rows:List (List Int)} {x:List Int} {r l j:Nat} (h:j<r):Od rows x r l j= .int .i64 (n4 (rows.getD j []) x (rows.getD j []).length):=if_pos h
theorem wS {rows:List (List Int)} {x:List Int} {r l:Nat}:Od rows x r l r= .int .i64 (n4 (rows.getD r []) x l):=by
 unfold Od;rw[if_neg (by omega),if_pos rfl]
theorem wT {rows:List (List Int)} {x:List Int} {r l j:Nat} (h:r<j):Od rows x r l j= .int .i64 0:=by
 unfold Od;rw[if_neg (by omega),if_neg (by omega)]
theorem EV (A B:Option Addr) (c d:Nat) (rows:List (List Int)) (x:List Int) (w:World) (hR:pC .i64 w A rows) (hx:RdI .i64 w B x) (hn:rows.length<=65536) (hl: ∀i,i<rows.length->(rows.getD i []).length<=x.length) (hlx:x.length<=9223372036854775807):
  Calls Tryz.prog 134 #[.slice A rows.length c,.slice B x.length d] w fun e w'=>e= .returned (.slice (some ⟨w.heap.size,0,none⟩) rows.length rows.length)/\RdI .i64 w' (some ⟨w.heap.size,0,none⟩) (eF rows x)/\Ext w w':=by
 have HR:=Lib.hid hR;have HX:=Lib.hid hx;have HL:=Lib.hid hl;clear hR hx hl;have hmk:=run_make_row' (P:=Tryz.prog) 35 2 (.int .i64 0) 8 Tryz.underlying35 Tryz.infoI64 rfl .i64 .i64 rows.length (by omega) (by omega)
 go_enter Tryz.func134,Tryz.ntmps134
 go_wp2_with fail
 clear hmk
 go_loopw [15,6,7,8,9] (fun i _ _ _ _ wr=> ∃r:Nat,r<=rows.length/\i= .int .i64 r/\Hid (wr.rowIs w.heap.size 2 rows.length (Od rows x r 0))/\Hid (Ext w wr)) (fun i _ _ _ _ _=>rows.length-(intOf i).toNat)
 case atStart=>exact⟨0,Nat.zero_le _,rfl,Lib.hid ((World.rowIs_made w (.int .i64 0) rows.length _).congr (fun j _=>by simp[Od,n4])),Lib.hid ((Ext.refl _).alloc _)⟩
 case round=>
  obtain⟨r,hr,rfl,HO,HE⟩:=hrel;by_cases hlt:r<rows.length
  ·obtain⟨row,ha⟩:=getElem?_of_lt hlt;obtain⟨b,off,BR,cr,rfl,hc,hcr,hlr,hrow⟩:=(HR.out.ext HE.out).at_ ha;have hrl:row.length<=x.length:=by have:=HL.out r hlt;rw[List.getD_eq_getElem?_getD,ha]at this;exact this
   have HA:=Lib.hid ha;have HD:Hid (rows.getD r []=row):=Lib.hid (by rw[List.getD_eq_getElem?_getD,ha];rfl);have HB:Hid (RdI .i64 w BR row):=Lib.hid (by
    obtain⟨b',off',BR',cr',h1,h2,_,_,h5⟩:=HR.out.at_ ha;cases h1;rw[HE.out.cell h2]at hc;cases hc;exact h5)
   clear ha hrow
   go_wp2_with fail
   obtain⟨wo,rfl⟩: ∃wo:World,wo=wr:=⟨_,rfl⟩
   go_loopw [22,8,9] (fun i _ _ wx=> ∃l:Nat,l<=row.length/\i= .int .i64 l/\Hid (wx.rowIs w.heap.size 2 rows.length (Od rows x r l))/\Hid (Ext w wx)) (fun i _ _ _=>row.length-(intOf i).toNat)
   case atStart=>exact⟨0,Nat.zero_le _,rfl,HO,HE⟩
   case round=>
    clear HO HE hc;obtain⟨l,hl,rfl,HO,HE⟩:=hrel;by_cases hll:l<row.length
    ·obtain⟨a,ha⟩:=getElem?_of_lt hll;obtain⟨b2,off2,rfl,hc2⟩:=(HB.out.ext HE.out).at_ ha;obtain⟨a3,ha3⟩:=getElem?_of_lt (l:=x) (k:=l) (by omega);obtain⟨b3,off3,rfl,hc3⟩:=(HX.out.ext HE.out).at_ ha3;have t1:wr.cell? ⟨w.heap.size,r,none⟩=some (.int .i64 (n4 row x l)):=by
      rw[HO.out.cell hlt,wS,HD.out]
     have t2:wr.frozen? ⟨w.heap.size,r,none⟩=false:=HO.out.frozen r;have HN:Hid (wrap64 (n4 row x l+wrap64 (a*a3))=n4 row x (l+1)):=Lib.hid (by
      simp[n4,List.getD_eq_getElem?_getD,ha,ha3])
     have hlx2:(l:Int)<(x.length:Int):=by omega
     have HA2:=Lib.hid ha;clear ha ha3
     go_wp2_with fail
     go_big_region
     go_wp2_with fail
     go_roundw
     case rel=>
      refine⟨l+1,by omega,by go_num,Lib.hid ((((HO.out.set r _).congr (fun j _=>?_))).drew),Lib.hid ((HE.out.setCell (ae _) _).drew)⟩;by_cases e:j=r
      ·subst e;rw[if_pos rfl,wS,HD.out,HN.out]
      rw[if_neg e];rcases Nat.lt_or_gt_of_ne e with h|h
      ·rw[pJ h,pJ h]
      rw[wT h,wT h]
     case measure=>simp[intOf];omega
    go_wp2_with fail
    go_roundw
    case rel=>
     refine⟨r+1,by omega,by go_num,Lib.hid (HO.out.congr (fun j _=>?_)),HE⟩;have:l=row.length:=by omega
     subst this;rcases Nat.lt_trichotomy j r with h|h|h
     ·rw[pJ h,pJ (by omega)]
     ·subst h;rw[wS,pJ (by omega),HD.out]
     rw[wT h];by_cases e:j=r+1
     ·subst e;rw[wS];rfl
     rw[wT (by omega)]
    case measure=>simp[intOf];omega
  go_wp2_with fail
  go_ret
  refine⟨rfl,RdI.of_row HO.out (by simp[eF]) (fun i z hz=>?_),HE.out⟩;obtain⟨row,h1,rfl⟩:=vo hz;have hi:i<rows.length:=by
   rcases Nat.lt_or_ge i rows.length with hl|hg
   ·exact hl
   rw[au hg]at h1;cases h1
  rw[pJ (by omega),List.getD_eq_getElem?_getD,h1];rfl
theorem vm (x y c:Int) (hx:0<=x) (hx':x<18446744073709551616) (hy:0<=y) (hy':y<18446744073709551616) (hc0:0<=c) (hc:c<=1) (w:World):(callFunc 227 #[.int .u64 x,.int .u64 y,.int .u64 c]).run Tryz.prog w=
  .ok (.value (.tuple #[.int .u64 ((x+y+c)%18446744073709551616),.int .u64 ((x+y+c)/18446744073709551616)])) w:=by
 obtain⟨x,rfl⟩:=Int.eq_ofNat_of_zero_le hx;obtain⟨y,rfl⟩:=Int.eq_ofNat_of_zero_le hy;obtain⟨c,rfl⟩:=Int.eq_ofNat_of_zero_le hc0;rw[run_callFunc_extern Tryz.func227 (by kernel_rfl) (by kernel_rfl) (by kernel_rfl) (e:=add64Entry) (by kernel_rfl),run_add64 x y c (by omega) (by omega) (by omega) (by omega)];rfl
theorem wy (x y b:Int) (hx:0<=x) (hy:0<=y) (hy':y<18446744073709551616) (hb0:0<=b) (hb:b<=1) (w:World):(callFunc 228 #[.int .u64 x,.int .u64 y,.int .u64 b]).run Tryz.prog w=
  .ok (.value (.tuple #[.int .u64 ((x-y-b)%18446744073709551616),.int .u64 (if x<y+b then 1 else 0)])) w:=by
 obtain⟨x,rfl⟩:=Int.eq_ofNat_of_zero_le hx;obtain⟨y,rfl⟩:=Int.eq_ofNat_of_zero_le hy;obtain⟨b,rfl⟩:=Int.eq_ofNat_of_zero_le hb0;have e1:(((x+18446744073709551616-y-b)%18446744073709551616:Nat):Int)=((x:Int)-y-b)%18446744073709551616:=by omega
 have e2:((if x<y+b then 1 else 0:Nat):Int)=if(x:Int)<y+b then 1 else 0:=by split<;>split<;>omega
 rw[<- e1,<- e2];rw[run_callFunc_extern Tryz.func228 (by kernel_rfl) (by kernel_rfl) (by kernel_rfl) (e:=sub64Entry) (by kernel_rfl),run_sub64 x y b (by omega)];rfl
theorem FE (x y:Nat) (hx:x<18446744073709551616) (hy:y<18446744073709551616) (w:World):
  Calls Tryz.prog 226 #[.int .u64 x,.int .u64 y] w fun e w'=>e= .returned (.tuple #[.int .u64 ((x*y/18446744073709551616:Nat):Int),.int .u64 ((x*y%18446744073709551616:Nat):Int)])/\w=w':=by
 obtain⟨bd,bt,bw,hhi⟩:=Lib.mul64_hi x y hx hy;have ba:=Lib.half_mul_le (a:=x/4294967296) (b:=y/4294967296) (by omega) (by omega);have bb:=Lib.half_mul_le (a:=x/4294967296) (b:=y%4294967296) (by omega) (by omega);have bc:=Lib.half_mul_le (a:=x%4294967296) (b:=y/4294967296) (by omega) (by omega);have ba':x/4294967296*(y/4294967296)<18446744073709551616:=by omega
 have bb':x/4294967296*(y%4294967296)<18446744073709551616:=by omega
 have bc':x%4294967296*(y/4294967296)<18446744073709551616:=by omega
 have bh1:x/4294967296*(y/4294967296)+(x/4294967296*(y%4294967296)+x%4294967296*(y%4294967296)/4294967296)/4294967296<18446744073709551616:=by omega
 have bh:x/4294967296*(y/4294967296)+(x/4294967296*(y%4294967296)+x%4294967296*(y%4294967296)/4294967296)/4294967296+((x/4294967296*(y%4294967296)+x%4294967296*(y%4294967296)/4294967296)%4294967296+x%4294967296*(y/4294967296))/4294967296<18446744073709551616:=by omega
 go_enter Tryz.func226,Tryz.ntmps226
 go_wp2
 simp only[Mul64.maskN x hx,Mul64.maskN y hy,Mul64.divN,Mul64.mulN,Mul64.addN,Mul64.wrapN _ bd,Mul64.wrapN _ bb',Mul64.wrapN _ bt,Mul64.maskN _ bt,Mul64.wrapN _ bc',Mul64.wrapN _ bw,Mul64.wrapN _ ba',Mul64.wrapN _ bh1,Mul64.wrapN _ bh,Mul64.wrapM (x*y)];rw[hhi]
 go_ret2
 exact⟨rfl,rfl⟩
def wd (n:Nat):Value:= .agg #[.int .u64 ((n/18446744073709551616:Nat):Int),.int .u64 ((n%18446744073709551616:Nat):Int)]
theorem N1 (n p:Nat) (h:n+p<340282366920938463463374607431768211456):
  (((n/18446744073709551616:Nat):Int)+((p/18446744073709551616:Nat):Int)+(((n%18446744073709551616:Nat):Int)+((p%18446744073709551616:Nat):Int))/18446744073709551616)%18446744073709551616=(((n+p)/18446744073709551616:Nat):Int):=by omega
theorem N2 (n p:Nat):
  (((n%18446744073709551616:Nat):Int)+((p%18446744073709551616:Nat):Int))%18446744073709551616=(((n+p)%18446744073709551616:Nat):Int):=by omega
theorem Bj (x y:Int) (hx:0<=x) (hx':x<18446744073709551616) (hy:0<=y) (hy':y<18446744073709551616) (w:World):(callFunc 227 #[.int .u64 x,.int .u64 y,.int .u64 0]).run Tryz.prog w=
  .ok (.value (.tuple #[.int .u64 ((x+y)%18446744073709551616),.int .u64 ((x+y)/18446744073709551616)])) w:=by
 simpa using vm x y 0 hx hx' hy hy' (by omega) (by omega) w
theorem AW (n x y:Nat) (hx:x<18446744073709551616) (hy:y<18446744073709551616) (hn:n+x*y<340282366920938463463374607431768211456) (w:World):
  Calls Tryz.prog 194 #[wd n,.int .u64 x,.int .u64 y] w fun e w'=>e= .returned (wd (n+x*y))/\Ext w w':=by
 have hp:x*y/18446744073709551616<18446744073709551616:=by omega
 obtain⟨nh,hnh⟩: ∃k:Nat,k=n/18446744073709551616:=⟨_,rfl⟩;obtain⟨nl,hnl⟩: ∃k:Nat,k=n%18446744073709551616:=⟨_,rfl⟩;obtain⟨ph,hph⟩: ∃k:Nat,k=x*y/18446744073709551616:=⟨_,rfl⟩;obtain⟨pl,hpl⟩: ∃k:Nat,k=x*y%18446744073709551616:=⟨_,rfl⟩;have b1:(nh:Int)<18446744073709551616:=by omega
 have b2:(nl:Int)<18446744073709551616:=by omega
 have b3:(ph:Int)<18446744073709551616:=by omega
 have b4:(pl:Int)<18446744073709551616:=by omega
 have c1:0<=((nl:Int)+(pl:Int))/18446744073709551616:=by omega
 have c2:((nl:Int)+(pl:Int))/18446744073709551616<=1:=by omega
 have HM:=Lib.hid (FE x y hx hy);have HLo:Hid (((nl:Int)+(pl:Int))%18446744073709551616=((n:Int)+(x:Int)*(y:Int))%18446744073709551616):=Lib.hid (by
  have:=N2 n (x*y);rw[<- hnl,<- hpl]at this;rw[this];simp)
 have HHi:Hid (((nh:Int)+(ph:Int)+((nl:Int)+(pl:Int))/18446744073709551616)%18446744073709551616=((n:Int)+(x:Int)*(y:Int))/18446744073709551616):=Lib.hid (by
  have:=N1 n (x*y) hn;rw[<- hnl,<- hpl,<- hnh,<- hph]at this;rw[this];simp)
 unfold wd;rw[<- hnh,<- hnl]at*
 rw[<- hph,<- hpl]at*
 have e1:=Bj nl pl (by omega) b2 (by omega) b4;have e2:=vm nh ph _ (by omega) b1 (by omega) b3 c1 c2;clear hnh hnl hph hpl hn hp
 go_enter Tryz.func194,Tryz.ntmps194
 go_wp2_with (first|(go_at_call 226;refine(HM.out _).mono ?_;rintro e w' ⟨rfl,rfl⟩)|simp only[e1]|simp only[e2])
 refine bodyPost_ret (v:= .agg #[.int .u64 ((((n+x*y)/18446744073709551616:Nat):Int)),.int .u64 ((((n+x*y)%18446744073709551616:Nat):Int))]) ?_ rfl ⟨rfl,?_⟩
 ·simp[results,Tryz.results194,go_sem];exact⟨HHi.out,HLo.out⟩
 exact((Ext.refl _).alloc _).alloc _
def C7 (n m:Nat):Option Nat:=if m<=n/\n-m<=4611686018427387904 then some (n-m)else none
def gd (n m:Nat):Value:=match C7 n m with
 |some k=> .tuple #[.int .i64 k,.bool true]
 |none=> .tuple #[.int .i64 0,.bool false]
theorem gf {n m:Nat} (h: ¬(m<=n/\n-m<=4611686018427387904)):gd n m= .tuple #[.int .i64 0,.bool false]:=by
 unfold gd C7;rw[if_neg h]
theorem kU {n m:Nat} (h:m<=n/\n-m<=4611686018427387904) {d:Int} (hd:((n-m:Nat):Int)=d):gd n m= .tuple #[.int .i64 d,.bool true]:=by
 unfold gd C7;rw[if_pos h,<- hd]
theorem CE (x y:Int) (hx:0<=x) (hy:0<=y) (hy':y<18446744073709551616) (w:World):(callFunc 228 #[.int .u64 x,.int .u64 y,.int .u64 0]).run Tryz.prog w=
  .ok (.value (.tuple #[.int .u64 ((x-y)%18446744073709551616),.int .u64 (if x<y then 1 else 0)])) w:=by
 simpa using wy x y 0 hx hy hy' (by omega) (by omega) w
theorem uZ (n m:Nat) (hn:n<340282366920938463463374607431768211456) (hm:m<340282366920938463463374607431768211456) (w:World):
  Calls Tryz.prog 195 #[wd n,wd m] w fun e w'=>e= .returned (gd n m)/\Ext w w':=by
 obtain⟨nh,hnh⟩: ∃k:Nat,k=n/18446744073709551616:=⟨_,rfl⟩;obtain⟨nl,hnl⟩: ∃k:Nat,k=n%18446744073709551616:=⟨_,rfl⟩;obtain⟨mh,hmh⟩: ∃k:Nat,k=m/18446744073709551616:=⟨_,rfl⟩;obtain⟨ml,hml⟩: ∃k:Nat,k=m%18446744073709551616:=⟨_,rfl⟩;have b1:(nh:Int)<18446744073709551616:=by omega
 have b2:(nl:Int)<18446744073709551616:=by omega
 have b3:(mh:Int)<18446744073709551616:=by omega
 have b4:(ml:Int)<18446744073709551616:=by omega
 have HE:Hid (n=nh*18446744073709551616+nl/\m=mh*18446744073709551616+ml):=Lib.hid (by omega);obtain⟨V,hV⟩: ∃V,V=gd n m:=⟨_,rfl⟩;unfold wd;rw[<- hnh,<- hnl,<- hmh,<- hml,<- hV];have HV:=Lib.hid hV;clear hnh hnl hmh hml hV hn hm;have e1:=CE nl ml (by omega) (by omega) b4;obtain⟨b,hb⟩: ∃b:Int,b=if(nl:Int)<ml then 1 else 0:=⟨_,rfl⟩
 have hb':b=0/\(ml:Int)<=nl\/b=1/\(nl:Int)<ml:=by rw[hb];split<;>omega
 have hb0:0<=b:=by omega
 have hb1:b<=1:=by omega
 have e2:=wy nh mh b (by omega) (by omega) b3 hb0 hb1;rw[<- hb]at e1;clear hb;obtain⟨dl,hdl⟩: ∃k:Int,k=((nl:Int)-ml)%18446744073709551616:=⟨_,rfl⟩;obtain⟨dh,hdh⟩: ∃k:Int,k=((nh:Int)-mh-b)%18446744073709551616:=⟨_,rfl⟩;obtain⟨b2',hb2⟩: ∃k:Int,k=if(nh:Int)<mh+b then 1 else 0:=⟨_,rfl⟩
 rw[<- hdl]at e1;rw[<- hdh,<- hb2]at e2;have d0:0<=dl:=by omega
 have d1:dl<18446744073709551616:=by omega
 have d2:0<=dh:=by omega
 have d3:dh<18446744073709551616:=by omega
 have HD:=Lib.hid (And.intro hdl (And.intro hdh (And.intro hb2 hb')));clear hdl hdh hb2 hb';by_cases g1:b2'=0
 ·have g1':(b2' !=0)=false:=by simp[g1]
  have G1:=Lib.hid g1;clear g1;by_cases g2:dh=0
  ·have g2':(dh !=0)=false:=by simp[g2]
   have G2:=Lib.hid g2;clear g2;by_cases g3:4611686018427387904<dl
   ·go_enter Tryz.func195,Tryz.ntmps195
    go_wp2_with (first|simp only[e1]|simp only[e2])
    go_ret2
    refine⟨?_,((Ext.refl _).alloc _).alloc _⟩;rw[HV.out];obtain⟨q1,q2,q3,q4⟩:=HD.out;obtain⟨q5,q6⟩:=HE.out;have q7:=G1.out;have q8:=G2.out
    (rw[gf (by split at q3<;>omega)])<;>rfl
   go_enter Tryz.func195,Tryz.ntmps195
   go_wp2_with (first|simp only[e1]|simp only[e2])
   go_ret2
   refine⟨?_,((Ext.refl _).alloc _).alloc _⟩;rw[HV.out];obtain⟨q1,q2,q3,q4⟩:=HD.out;obtain⟨q5,q6⟩:=HE.out;have q7:=G1.out;have q8:=G2.out
   (rw[kU (by split at q3<;>omega) (d:=dl) (by split at q3<;>omega)])<;>rfl
  have g2':(dh !=0)=true:=by simp[g2]
  go_enter Tryz.func195,Tryz.ntmps195
  go_wp2_with (first|simp only[e1]|simp only[e2])
  go_ret2
  refine⟨?_,((Ext.refl _).alloc _).alloc _⟩;rw[HV.out];obtain⟨q1,q2,q3,q4⟩:=HD.out;obtain⟨q5,q6⟩:=HE.out;have q7:=G1.out
  (rw[gf (by split at q3<;>omega)])<;>rfl
 have g1':(b2' !=0)=true:=by simp[g1]
 go_enter Tryz.func195,Tryz.ntmps195
 go_wp2_with (first|simp only[e1]|simp only[e2])
 go_ret2
 refine⟨?_,((Ext.refl _).alloc _).alloc _⟩;rw[HV.out];obtain⟨q1,q2,q3,q4⟩:=HD.out;obtain⟨q5,q6⟩:=HE.out
 (rw[gf (by split at q3<;>omega)])<;>rfl
end Go.Proofs.YtalmoejhjceflaaGreat
