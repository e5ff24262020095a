/-
  Part 14 of a proof (walks and plain facts).
-/
import Derived.Test.YtalmoejhjceflaaGreatR12
import Derived.Deep.RegionHeld3
import Derived.Deep.RegionLaw
import Derived.Laws.EntriesVeiled
set_option linter.all false
set_option maxRecDepth 100000
set_option maxHeartbeats 64000000
open Nat renaming reduceAdd → aa
open Nat renaming reduceEqDiff → ab
open List renaming replicate → ae
open Nat renaming reduceBEq → af
open Nat renaming reduceLeDiff → ag
open Int renaming reduceToNat → ah
namespace Go.Proofs.YtalmoejhjceflaaGreat
open Go.RowKit Go.Proofs.Tryz
variable {b:Exit->AS->Prop} {c:Exit->AS->List PV->Prop} {e f:Code} {n m:Nat} {g:List PV} {h:TypeId} {j:Operand} {l:List Nat} {w:World} {o:Array Oper} {p:List NItem} {q:List Int} {r:FuncId} {x:Int} {s:NItem} {t:Func}
section
open Go.Sort (flatK putRowK HoldsK get_flatK size_flatK)
def nY (b:NItem):List Value:=[.int .i64 b.key,.slice b.at_ b.vals.length b.cap]
theorem BY {w:World} {N:Nat} {f:Nat->Value} (h:w.rowIs n m N f) (d:Array Value):(Sort.putRow id w n 0 d).rowIs n m N (fun k=>if k<d.size then d[k]! else f k):=by
 obtain⟨c,e,b,j⟩:=h;refine⟨Sort.putCells id 0 d c,?_,by simp[Sort.putCells,b],fun i l=>?_⟩
 ·grind [Sort.putRow,Sort.mapBlock,Sort.onCells]
 grind [Sort.putCells]
theorem BS (w:World) (g:Nat) (d:Array Value) (k:Nat) (b:k≠g):(Sort.putRow id w g 0 d).heap[k]?=w.heap[k]?:=by
 grind [Sort.putRow,Sort.mapBlock]
section
variable {α:Type} [Inhabited α] (enc:α->List Value) (w:World) (g n:Nat) (d:Array α) (os:Array Obj)
theorem EA:w.grownBy (sortWorldK enc 2 w g 0 n d os) (some g):=by
 unfold sortWorldK putRowK;refine⟨rfl,rfl,rfl,?_,fun k c b=>?_⟩
 ·simp
 show((Sort.putRow id (Sort.ahead w n) g 0 _).heap++os)[k]?=w.heap[k]?;rw[aaz (by simp_all),BS _ _ _ _ (fun e=>b (by rw[e]))];rfl
theorem LY {N:Nat} {f:Nat->Value} (h:w.rowIs g m N f):(sortWorldK enc 2 w g 0 n d os).rowIs g m N (fun k=>if k<(flatK enc 2 d).size then(flatK enc 2 d)[k]! else f k):=by
 have b:=BY (w:=Sort.ahead w n) h (flatK enc 2 d);refine b.of_block ?_;unfold sortWorldK putRowK;show((Sort.putRow id (Sort.ahead w n) g 0 _).heap++os)[g]?=_;rw[aaz b.lt]
end
structure uJ (w:World) (g:Nat) where
 it:NItem
 ok:ItemOk w g it
instance (w:World) (g:Nat):Inhabited (uJ w g):=⟨⟨⟨0,[],none,0⟩,⟨RdI.nil _ _ _,(by simp),by simp⟩⟩⟩
def uk (w:World) (g:Nat) (x:uJ w g):List Value:=nY x.it
def qG (w:World) (g:Nat) (L:List NItem) (h: ∀b∈L,ItemOk w g b):Array (uJ w g):=(L.attach.map fun x=>(⟨x.1,h x.1 x.2⟩:uJ w g)).toArray
theorem mC (h: ∀b∈p,ItemOk w n b):(qG w n p h).size=p.length:=by
 grind [qG]
theorem wC (h: ∀b∈p,ItemOk w n b):(qG w n p h).toList.map (fun x:uJ w n=>x.it)=p:=by
 simp_all[qG]
theorem I5 (d:Array (uJ w n)) {j:Nat} {it:NItem} (c:(d.toList.map (fun x:uJ w n=>x.it))[j]?=some it):
  (flatK (uk w n) 2 d)[j*2]! = .int .i64 it.key/\(flatK (uk w n) 2 d)[j*2+1]! =it.val:=by
 have b:j<d.size:=by grind
 grind [get_flatK,uk,nY,NItem.val]
theorem Bk (o:vU w n m p) (h: ∀b∈p,ItemOk w n b):HoldsK (uk w n) 2 w n 0 (qG w n p h):=by
 obtain⟨f,e,u,l⟩:=o;intro t s;rw[size_flatK,mC]at s;have r:t/2<p.length:=by omega
 obtain⟨b,c⟩:=getElem?_of_lt r;have q:=I5 (qG w n p h) (j:=t/2) (it:=b) (by grind [wC]);obtain⟨v,x⟩:=l _ _ c;rw[aaO];refine⟨?_,e.frozen t⟩;rw[e.cell (by omega)];grind
theorem ItemOk.sortW {d:Array (uJ w n)} {b:Array Obj} (h:ItemOk w n s):ItemOk (sortWorldK (uk w n) 2 w n 0 m d b) n s:=h.gb (EA _ _ _ _ _ _)
theorem FZ (w:World) (g size:Nat):CmpLays prog 132 #[] (uk w g) 2 (fun a b=>jV a.it b.it) g 0 size w:=fun m e dk c x y=>
 kS x.it.key y.it.key x.it.at_ y.it.at_ x.it.cap y.it.cap x.it.vals y.it.vals _ x.ok.sortW.rd y.ok.sortW.rd x.ok.le y.ok.le
def qw (L:List NItem):Prop:= ∀(i j:Nat) a b,i<j->L[i]?=some a->L[j]?=some b-> ¬jV b a<0
theorem Cg (g cap:Nat) (L:List NItem) (w:World) (E:vU w g (cap*2) L) (m:L.length<4611686018427387904) (l: ∀A∈L,ItemOk w g A):
  Calls prog 198 #[.slice (some ⟨g,0,none⟩) L.length cap,.func (Fn.func 132) #[] #[]] w fun e y=>
   ∃p,e= .returned (.tuple #[])/\p.Perm L/\qw p/\vU y g (cap*2) p/\w.grownBy y (some g):=by
 have B: ∀args w,(callFunc 132 args).run prog w= .ok (.enter 132 args) w:=enters_of func132 (by kernel_rfl) rfl;obtain⟨f,q,C,D⟩:=E;have t:=q.lt;have c:=AnyQ.slices_SortFunc (α:=uJ w g) Tryz.sortK 2 (fun w=>by kernel_rfl) (fun w=>by kernel_rfl) (uk w g) (fun _=>rfl) (fun x v z=>by simp[uk,nY]at z;rcases z with rfl|rfl<;>rfl) (fun a b=>jV a.it b.it) (Ze fun x:uJ w g=>x.it) 132 #[] g 0 cap (qG w g L l) w B (FZ w g _) (Bk ⟨f,q,C,D⟩ l) t (by rw[mC];exact m)
 change Calls prog 198 _ _ _ at c
 rw[mC]at c;refine c.mono fun e y ⟨F,h,n,R,H,J,K⟩=>?_
 obtain⟨o,_,u⟩:=H;rw[mC]at o;have s:(h.toList.map (fun x:uJ w g=>x.it)).length=L.length:=by simp[o]
 refine⟨h.toList.map (fun x:uJ w g=>x.it),F,?_,?_,?_,by grind [EA]⟩
 ·have I:h.toList.Perm (qG w g L l).toList:=by
   have M:h.extract 0 L.length=h:=by grind
   grind [qG]
  grind [wC]
 ·intro i j a b r P Q;have G:j<h.size:=by grind
  have N:h[i]!.it=a:=by
   grind
  have O:h[j]!.it=b:=by
   grind
  have:=J i j (aaW _) r (by omega);grind [ltOf]
 rw[K];refine⟨_,LY _ _ _ _ _ _ q,by omega,fun j A G=>?_⟩;grind [I5,size_flatK]
theorem Ql (sx g cap:Nat) (L:List NItem) (w:World) (hL:vU w g (cap*2) L) (hcap:L.length<=cap) (hlen:L.length<=4611686018427387903) (hok: ∀it∈L,ItemOk w g it)
  (hS:w.rowIs sx 173 2 (fun j=>if j=0 then .slice (some ⟨g,0,none⟩) L.length cap else .func (Fn.func 132) #[] #[])) (hsx:sx≠g):
  Calls prog 136 #[.pointer (some ⟨sx,0,none⟩)] w fun e w'=>
   ∃L',e= .returned (.tuple #[])/\L'.Perm L/\qw L'/\vU w' g (cap*2) (bu L')/\w'.cell? ⟨sx,0,none⟩=some (.slice (some ⟨g,0,none⟩) (bu L').length cap)/\w'.rowIs sx 173 2 (fun j=>if j=0 then .slice (some ⟨g,0,none⟩) (bu L').length cap else .func (Fn.func 132) #[] #[])/\
    (∀k,k<w.heap.size->k≠g->k≠sx->w'.heap[k]?=w.heap[k]?)/\w.heap.size<=w'.heap.size/\w'.os=w.os/\w'.tape=w.tape/\w'.output=w.output:=by
 have HL:=aae hL;have HOK:=aae hok;have HS:=aae hS;have HN:=aae hsx;have hglt:g<w.heap.size:=by obtain⟨f,h1,_⟩:=hL;exact h1.lt
 have hslt:=hS.lt;clear hL hok hS hsx
 go_enter func136,ntmps136
 go_wp2_with fail
 have c0:(w.alloc (.cells #[.pointer (some ⟨sx,0,none⟩)] 237)).drew.cell? ⟨w.heap.size,0,none⟩=some (.pointer (some ⟨sx,0,none⟩)):=by go_simp
 have HE0:Hid (Ext w (w.alloc (.cells #[.pointer (some ⟨sx,0,none⟩)] 237)).drew):=aae ((Ext.refl _).alloc _).drew;have hz0:w.heap.size<(w.alloc (.cells #[.pointer (some ⟨sx,0,none⟩)] 237)).drew.heap.size:=by simp[World.drew]
 generalize w.alloc (.cells #[.pointer (some ⟨sx,0,none⟩)] 237)=w1 at*
 refine cW 8 (by kernel_rfl) (by kernel_rfl) ?_;simp only[abS,acJ,abR,abL];generalize w1.drew=w2 at*
 have s0:w2.cell? ⟨sx,0,none⟩=some (.slice (some ⟨g,0,none⟩) L.length cap):=(cH HS.out HE0.out).cell (by omega);have s1:w2.cell? ⟨sx,1,none⟩=some (.func (Fn.func 132) #[] #[]):=(cH HS.out HE0.out).cell (by omega)
 iterate 8 still_step
 refine wpStill_nil ?_;have HC:=aae (Cg g cap L w2 (HL.out.ext HE0.out) (by omega) (fun it hit=>(HOK.out it hit).ext HE0.out));clear s1
 go_wp2_with fail
 refine HC.out.mono ?_;rintro e w3 ⟨L',rfl,hperm,hsorted,hlst,hgb⟩;have HP:=aae hperm;have HSO:=aae hsorted;have HLS:=aae hlst;have HG3:=aae hgb;have HLL:Hid (L'.length=L.length):=aae hperm.length_eq;clear hperm hsorted hlst hgb HC s0
 go_wp2_with fail
 have HOK3:Hid (∀it∈L',ItemOk w3 g it):=aae (fun it hit=>((HOK.out it (HP.out.subset hit)).ext HE0.out).gb HG3.out);have HS3:Hid (w3.rowIs sx 173 2 (fun j=>if j=0 then .slice (some ⟨g,0,none⟩) L.length cap else .func (Fn.func 132) #[] #[])):=aae ((cH HS.out HE0.out).of_block (HG3.out.block sx (aas hslt HE0.out.size) (fun e=>HN.out (by injection e))));have d0:w3.cell? ⟨w.heap.size,0,none⟩=some (.pointer (some ⟨sx,0,none⟩)):=oR HG3.out c0 (by grind);have d1:w3.cell? ⟨sx,0,none⟩=some (.slice (some ⟨g,0,none⟩) L.length cap):=HS3.out.cell (by omega);have d2:w3.frozen? ⟨sx,0,none⟩=false:=HS3.out.frozen 0;have hcon:=uO g cap L' w.heap.size sx 0 w3.drew (HLS.out.ext ((Ext.refl _).drew)) (by rw[HLL.out];exact hcap) (by rw[HLL.out];omega) (fun it hit=>(HOK3.out it hit).ext ((Ext.refl _).drew)) d0 (show w3.drew.cell? ⟨sx,0+1,none⟩=_ from HS3.out.cell (i:=1) (by omega)) (by omega) HN.out;rw[HLL.out]at hcon;have HC:=aae hcon;clear hcon c0;have HG4:Hid (w2.grownBy w3.drew (some g)):=aae (jz HG3.out (fz ((Ext.refl _).drew) g))
 go_region_law (go_simp;go_at_call 199;refine HC.out.mono ?_;rintro e w5 ⟨rfl,hlst,hgb⟩;have HLS5:=aae hlst;have HG5:=aae hgb;have HS5:Hid (w5.rowIs sx 173 2 (fun j=>if j=0 then .slice (some ⟨g,0,none⟩) L.length cap else .func (Fn.func 132) #[] #[])):=aae (HS3.out.of_block (hgb.block sx HS3.out.lt (fun e=>HN.out (by injection e))));have f0:w5.cell? ⟨w.heap.size,0,none⟩=some (.pointer (some ⟨sx,0,none⟩)):=oR hgb d0 (by show w.heap.size≠g;omega);have f1:w5.cell? ⟨sx,0,none⟩=some (.slice (some ⟨g,0,none⟩) L.length cap):=HS5.out.cell (by omega);have f2:w5.frozen? ⟨sx,0,none⟩=false:=HS5.out.frozen 0;clear hlst hgb)
 all_goals
  go_wp2_with fail
  go_end0
  have hrow:=(HS5.out.set 0 (.slice (some ⟨g,0,none⟩) (bu L').length cap)).congr (g:=fun j=>if j=0 then .slice (some ⟨g,0,none⟩) (bu L').length cap else .func (Fn.func 132) #[] #[]) (fun j hj=>by
   match j,hj with
   |0,_=>rfl
   |1,_=>rfl)
  have hgg:=jz (jz (fz HE0.out g) HG4.out) HG5.out;refine⟨L',rfl,HP.out,HSO.out,?_,hrow.cell (by omega),hrow,fun k hk hkg hks=>?_,?_,hgg.os,hgg.tape,hgg.output⟩
  ·obtain⟨f,q1,q2,q3⟩:=HLS5.out;exact⟨f,q1.setOther (abD HN.out) _,q2,q3⟩
  ·rw[ads _ _ _ _ hks];exact hgg.block k hk (fun e=>hkg (by injection e))
  simpa[World.setCell] using hgg.size
end
theorem Ci (w:World):
  Calls prog 198 #[.slice none 0 0,.func (Fn.func 132) #[] #[]] w fun e w'=>e= .returned (.tuple #[])/\ ∃n,w'=w.drewN n:=by
 have hl: ∀w,Calls prog 127 #[.int .u64 0] w fun e w'=>e= .returned (.int .i64 0)/\w=w':=fun w=>by
  go_enter func127,ntmps127
  go_wp2
  go_ret
  refine⟨?_,rfl⟩;show Ending.returned (.int .i64 (wrap64 (wrap64 (Lib.len8 0))))=_;rw[show Lib.len8 0=0 from by rfl,acz 0 ⟨by omega,by omega⟩,acz 0 ⟨by omega,by omega⟩]
 have hi: ∀w,Calls prog 244 #[.slice none 0 0,.int .i64 0,.int .i64 0,.func (Fn.func 132) #[] #[]] w fun e w'=>e= .returned (.tuple #[])/\w=w':=fun w=>by
  go_enter func244,ntmps244
  go_wp2
  refine wp_loop_rounds 1 ?_;rw[rounds_succ]
  go_wp2
  go_end0
  simp
 have hp: ∀w,Calls prog 229 #[.slice none 0 0,.int .i64 0,.int .i64 0,.int .i64 0,.func (Fn.func 132) #[] #[]] w fun e w'=>e= .returned (.tuple #[])/\w=w':=fun w=>by
  have HI:=aae hi;clear hi hl
  go_enter func229,ntmps229
  go_wp2_with fail
  refine wp_loop_rounds 1 ?_;rw[rounds_succ]
  go_wp2_with (go_at_call 244;refine(HI.out _).mono ?_;rintro e w' ⟨rfl,rfl⟩)
  refine bodyPost_ret (results_none rfl _ _ _) rfl ?_
  simp
 have HP:=aae hp;have HLn:=aae hl;clear hp hl hi
 go_enter func198,ntmps198
 go_wp2_with (first|(go_at_call 127;refine(HLn.out _).mono ?_;rintro e w' ⟨rfl,rfl⟩)|(go_at_call 229;refine(HP.out _).mono ?_;rintro e w' ⟨rfl,rfl⟩))
 go_end0
 exact⟨rfl,0,rfl⟩
theorem uP (w:World) (fv:Value):
  Calls prog 199 #[.slice none 0 0,fv] w fun e w'=>e= .returned (.slice none 0 0)/\w=w':=by
 go_enter func199,ntmps199
 go_wp2_with fail
 go_ret
 simp
theorem Qm (sx:Nat) (w:World) (hS:w.rowIs sx 173 2 (fun j=>if j=0 then .slice none 0 0 else .func (Fn.func 132) #[] #[])):
  Calls prog 136 #[.pointer (some ⟨sx,0,none⟩)] w fun e w'=>
   e= .returned (.tuple #[])/\w'.cell? ⟨sx,0,none⟩=some (.slice none 0 0)/\
    (∀k,k<w.heap.size->k≠sx->w'.heap[k]?=w.heap[k]?)/\w.heap.size<=w'.heap.size/\w'.os=w.os/\w'.tape=w.tape/\w'.output=w.output:=by
 have HS:=aae hS;have hslt:=hS.lt;clear hS
 go_enter func136,ntmps136
 go_wp2_with fail
 have c0:(w.alloc (.cells #[.pointer (some ⟨sx,0,none⟩)] 237)).drew.cell? ⟨w.heap.size,0,none⟩=some (.pointer (some ⟨sx,0,none⟩)):=by go_simp
 have HE0:Hid (Ext w (w.alloc (.cells #[.pointer (some ⟨sx,0,none⟩)] 237)).drew):=aae ((Ext.refl _).alloc _).drew;generalize w.alloc (.cells #[.pointer (some ⟨sx,0,none⟩)] 237)=w1 at*
 refine cW 8 (by kernel_rfl) (by kernel_rfl) ?_;simp only[abS,acJ,abR,abL];generalize w1.drew=w2 at*
 have s0:w2.cell? ⟨sx,0,none⟩=some (.slice none 0 0):=(cH HS.out HE0.out).cell (by omega);have s1:w2.cell? ⟨sx,1,none⟩=some (.func (Fn.func 132) #[] #[]):=(cH HS.out HE0.out).cell (by omega)
 iterate 8 still_step
 refine wpStill_nil ?_;have HC:=aae (Ci w2);clear s1
 go_wp2_with fail
 refine HC.out.mono ?_;rintro e w3 ⟨rfl,n,rfl⟩;have HE3:=aae (HE0.out.drewN n);have d0:(w2.drewN n).cell? ⟨w.heap.size,0,none⟩=some (.pointer (some ⟨sx,0,none⟩)):=c0;have d1:(w2.drewN n).cell? ⟨sx,0,none⟩=some (.slice none 0 0):=s0;have d2:(w2.drewN n).frozen? ⟨sx,0,none⟩=false:=(cH HS.out HE3.out).frozen 0;clear HC s0 c0 HE0;generalize w2.drewN n=w3 at*
 have HC:Hid (∀(w:World) (fv:Value),Calls prog 199 #[.slice none 0 0,fv] w fun e w'=>e= .returned (.slice none 0 0)/\w=w'):=aae uP
 go_wp2_with fail
 go_region_law (go_simp;go_at_call 199;refine(HC.out _ _).mono ?_;rintro e w5 ⟨rfl,rfl⟩)
 all_goals
  go_wp2_with fail
  go_end0
  refine⟨rfl,?_,fun k hk hks=>?_,?_,HE3.out.os,HE3.out.tape,HE3.out.output⟩
  ·exact(((cH HS.out HE3.out).drew.set 0 (.slice none 0 0)).cell (i:=0) (by omega))
  ·show((w3.drew.setCell ⟨sx,0,none⟩ (.slice none 0 0)).heap[k]?)=_;rw[ads _ _ _ _ hks];exact HE3.out.block k hk
  have:=HE3.out.size;simpa[World.setCell,World.drew] using this
theorem Tryz.infoKeyed:(prog.info? 177).map (fun i=>(i.zero,i.size,i.bytes))=some (some (.agg #[.int .i64 0,.slice none 0 0]),2,32):=by kernel_rfl
def uw (b:List (List Int)) (x:List Int):Option Int:=
 if -4611686018427387904<=dC x (fO b x) x.length/\dC x (fO b x) x.length<=4611686018427387904 then some (dC x (fO b x) x.length)else none
def n5 (b:List (List Int)) (x:List Int):Option (Int×List Int):=
 if yF b.length x then(match uw b x,i5 x with
  |some k,some y=>some (k,y)
  |_,_=>none)else none
def gE (c:List (List Int)):List (List Int)->Option (List (Int×List Int))
 |[]=>some []
 |x::l=>match n5 c x,gE c l with
  |some a,some b=>some (a::b)
  |_,_=>none
theorem kV {b:List (List Int)}: ∀{l:List (List Int)} {k:Nat} {x:List Int},l[k]?=some x->n5 b x=none->gE b l=none
 |[],_,_,h,_=>by simp at h
 |a::l,0,x,h,c=>by grind [gE]
 |a::l,k+1,x,h,c=>by
  simp at h;have:=kV h c;simp[gE,this]
def NItem.dat (b:NItem):Int×List Int:=(b.key,b.vals)
theorem ur {rows:List (List Int)}: ∀{l:List (List Int)} {L:List NItem},L.length=l.length->(∀(j:Nat) (b:NItem),L[j]?=some b-> ∃x,l[j]?=some x/\n5 rows x=some b.dat)->gE rows l=some (L.map NItem.dat)
 |[],[],_,_=>rfl
 |[],_::_,h,_=>by simp at h
 |_::_,[],h,_=>by simp at h
 |x::l,b::L,h,e=>by
  have f:=e 0 b rfl;simp at f;have g:=ur (rows:=rows) (l:=l) (L:=L) (by grind) (fun j c m=>by
   obtain⟨y,n,o⟩:=e (j+1) c (by grind);grind)
  grind [gE]
def mM (L:List NItem):List Value:=L.flatMap nY
theorem Dy (L:List NItem) (b:NItem):mM L++nY b=mM (L++[b]):=by simp[mM]
theorem zM: ∀{L:List NItem} {j:Nat} {b:NItem},L[j]?=some b->(mM L)[j*2]?=some (.int .i64 b.key)/\(mM L)[j*2+1]?=some b.val
 |[],_,_,h=>by simp at h
 |a::L,0,b,h=>by grind [mM,nY,NItem.val]
 |a::L,j+1,b,h=>by
  simp at h;obtain⟨c,e⟩:=zM h;grind [mM,nY]
theorem GQ (c:NItem): ∀u∈nY c,u.oneCell'=true:=by
 intro u b;simp[nY]at b;rcases b with rfl|rfl<;>rfl
def Za (v:Value):Nat->Value:=fun j=>if j=0 then v else .func (Fn.func 132) #[] #[]
def Yo (w:World) (c:Nat) (v:Value) (b:NItem):Prop:=RdI .i64 w b.at_ b.vals/\(b.vals.length<=9223372036854775807/\b.vals.length<=b.cap)/\ ∀p,b.at_=some p->v.ownBlock≠some p.block/\c<p.block/\p.block<w.heap.size
def RO (k:Nat) (w:World) (A:Option Addr) (M:List (List Int)):Prop:=M.length<=65536/\ ∃b,A=some ⟨b,0,none⟩/\k<=b/\b<w.heap.size/\ ∀(i:Nat) r,M[i]?=some r-> ∃e c,w.cell? ⟨b,i,none⟩=some (.slice e r.length c)/\r.length<=c/\r.length<=9223372036854775807/\RdI .i64 w e r/\ ∀p,e=some p->k<=p.block/\p.block<w.heap.size
def Fl (c:Nat) (b:World) (r:Option (List (Int×List Int))) (e:Ending):Prop:=match r with
 |none=>e= .returned (.tuple #[.slice none 0 0,.bool false])
 |some f=> ∃L:List NItem,(L.map NItem.dat).Perm f/\qw L/\ ∃A,e= .returned (.tuple #[.slice A (bu L).length (bu L).length,.bool true])/\sG .i64 b A ((bu L).map NItem.vals)/\RO c b A ((bu L).map NItem.vals)
theorem KP {b:List (List Int)} {k:Int} (h:uw b q=some k):Dk (dC q (fO b q) q.length)= .tuple #[.int .i64 k,.bool true]:=by
 grind [uw,Dk]
theorem KO {b:List (List Int)} (h:uw b q=none):Dk (dC q (fO b q) q.length)= .tuple #[.int .i64 0,.bool false]:=by
 grind [uw,Dk]
theorem pO: ∀{l:List NItem} {p c:NItem},c∈dz p l->c∈l
 |[],_,_,h=>by simp[dz]at h
 |b::l,p,c,h=>by
  unfold dz at h;split at h
  ·exact abp _ (pO h)
  rcases aaV.1 h with rfl|h
  ·simp
  exact abp _ (pO h)
theorem uh (h:s∈bu p):s∈p:=by
 cases p with
 |nil=>simp[bu]at h
 |cons a l=>
  grind [bu,pO]
theorem wR: ∀(l:List NItem) (p:NItem),(dz p l).length<=l.length
 |[],_=>by simp[dz]
 |b::l,p=>by
  unfold dz;have:=wR l b;grind
theorem Dd (L:List NItem):(bu L).length<=L.length:=by
 cases L with
 |nil=>simp[bu]
 |cons a l=>grind [wR,bu]
def Pw (L:List NItem) (m:Nat):Nat->Value:=fun j=>if j<m then(match L[j]? with|some b=>b.val|none=>undef)else .slice none 0 0
theorem yn (A B:Option Addr) (c d:Nat) (rows l:List (List Int)) (w:World) (hR:sG .i64 w A rows) (hl:sG .i64 w B l) (lr:rows.length<=9223372036854775807) (hc:rows.length<=c) (ll:l.length<=65536):
  Calls prog 89 #[.slice A rows.length c,.slice B l.length d] w fun e w'=>Fl w.heap.size w' (if isReducedM rows then gE rows l else none) e/\Ext w w':=by
 have HR:=aae hR;have HL:=aae hl;clear hR hl;cases hI:isReducedM rows with
 |false=>
  have HV:Hid ((if isReducedM rows then gE rows l else none)=none):=aae (by simp[hI])
  go_enter func89,ntmps89
  go_wp2_with (go_at_call 36;refine(lH A c rows _ HR.out lr hc).mono ?_;rintro e w1 ⟨rfl,he⟩)
  go_ret2
  exact⟨rfl,he⟩
 |true=>
  have HSm:=aae (i9 hI);have h8:rows.length<=8:=HSm.out.2.1
  go_enter func89,ntmps89
  go_wp2_with (go_at_call 36;refine(lH A c rows _ HR.out lr hc).mono ?_;rintro e w1 ⟨rfl,he⟩;have HE:=aae he;clear he)
  clear hI;obtain⟨wo,rfl⟩: ∃wo:World,wo=w1:=⟨_,rfl⟩
  go_loopw [22,8,9,10,11,12] (fun i _ _ _ _ _ wr=> ∃(k:Nat) (L:List NItem) (v:Value),k<=l.length/\i= .int .i64 k/\Hid (L.length=k/\(k=0->v= .slice none 0 0))/\Hid (∀(j:Nat) (it:NItem),L[j]?=some it-> ∃x,l[j]?=some x/\n5 rows x=some it.dat)/\Hid (wr.ownsRow (wo.heap.size+1) 177 2 v k (mM L))/\Hid (wr.rowIs wo.heap.size 173 2 (Za v))/\Hid (Ext wo wr)/\Hid (∀it∈L,Yo wr wo.heap.size v it)) (fun i _ _ _ _ _ _=>l.length-(intOf i).toNat)
  case atStart=>
   refine⟨0,[],.slice none 0 0,aaW _,rfl,aae ⟨rfl,fun _=>rfl⟩,aae (by simp),aae (acT _ _ _ _),aae ?_,aae ?_,aae (by simp)⟩
   ·refine adJ wo #[.slice none 0 0,.func (Fn.func 132) #[] #[]] _ _ (fun i hi=>?_)
    match i,hi with
    |0,_=>rfl
    |1,_=>rfl
   exact(Ext.refl _).alloc _
  case round=>
   obtain⟨k,L,v,hk,rfl,HLen,HIt,HOwn,HRow,HE2,HIV⟩:=hrel;by_cases hlt:k<l.length
   ·obtain⟨x,hx⟩:=getElem?_of_lt hlt;obtain⟨b,off,BX,cx,rfl,hcx,hcxl,hlx,hrx⟩:=((HL.out.ext HE.out).ext HE2.out).at_ hx;have HX:=aae hx;have HRX:=aae hrx;clear hx hrx;cases hF:yF rows.length x with
    |false=>
     have HN:Hid (gE rows l=none):=aae (kV HX.out (by grind [n5]))
     go_wp2_with (go_at_call 116;refine(Dx rows.length BX cx x _ HRX.out hlx).mono ?_;rintro e w2 ⟨rfl,rfl⟩)
     go_ret2
     exact⟨by rw[HN.out];rfl,HE.out.trans HE2.out⟩
    |true=>
     obtain⟨hxl,hxb⟩:=qu.1 hF;have hxle:x.length<=rows.length:=by omega
     have hxge:rows.length<=x.length:=by omega
     have HXB:=aae hxb;have HF:=aae hF;have HA:=aae (Ky HSm.out hxb);have HAL:=aae (yI rows x);clear hxl hxb
     go_wp2_with (go_at_call 116;refine(Dx rows.length BX cx x _ HRX.out hlx).mono ?_;rintro e w2 ⟨rfl,rfl⟩)
     clear hF;refine(Kz A BX c cx rows x _ ((HR.out.ext HE.out).ext HE2.out) HRX.out (by omega) (fun i hi=>by rw[HSm.out.2.2.1 i hi];exact hxge) hlx).mono ?_;rintro e w3 ⟨rfl,hrd,he3⟩;have hcon:=SF BX (some ⟨wr.heap.size,0,none⟩) cx rows.length x (fO rows x) w3 (HRX.out.ext he3) hrd (by rw[HAL.out];exact hxle) (by omega) (by rw[HAL.out];omega) (fun i z hz=>mr HXB.out hz) HA.out;rw[HAL.out]at hcon;have HC:=aae hcon;have HE3:=aae he3;clear hcon hrd he3
     go_wp2_with fail
     cases hN:uw rows x with
     |none=>
      have hno:=HC.out;rw[KO hN]at hno;have HNone:Hid (gE rows l=none):=aae (kV HX.out (by unfold n5;simp_all));refine hno.mono ?_;rintro e w4 ⟨rfl,he4⟩;have HE4:=aae (HE3.out.trans he4);clear he4 hno HC hN
      go_wp2_with fail
      refine(kR BX cx x _ (HRX.out.ext HE4.out) (by omega)).mono ?_;rintro e w5 ⟨hcv,he5⟩;have HE5:=aae (((HE.out.trans HE2.out).trans HE4.out).trans he5);clear he5;have hform: ∃va vb,e= .returned (.tuple #[va,.bool vb]):=by
       unfold NI at hcv;split at hcv
       ·simp_all
       obtain⟨A',c',h,_⟩:=hcv;simp_all
      obtain⟨va,vb,rfl⟩:=hform;clear hcv
      go_wp2_with fail
      go_ret2
      exact⟨by rw[HNone.out];rfl,HE5.out⟩
     |some key=>
      have hno:=HC.out;rw[KP hN]at hno;refine hno.mono ?_;rintro e w4 ⟨rfl,he4⟩;have HE4:=aae (HE3.out.trans he4);have HNo:=aae hN;clear he4 hno HC hN
      go_wp2_with fail
      refine(kR BX cx x _ (HRX.out.ext HE4.out) (by omega)).mono ?_;rintro e w5 ⟨hcv,he5⟩;have HE5:=aae (HE4.out.trans he5);clear he5;cases hS:i5 x with
      |none=>
       have HNone:Hid (gE rows l=none):=aae (kV HX.out (by unfold n5;simp_all));rw[hS]at hcv;obtain rfl:=hcv;clear hS
       go_wp2_with fail
       go_ret2
       exact⟨by rw[HNone.out];rfl,(HE.out.trans HE2.out).trans HE5.out⟩
      |some y=>
       rw[hS]at hcv;obtain⟨AY,cy,rfl,hcy,hry,hby⟩:=hcv;have HIO:Hid (n5 rows x=some (key,y)):=aae (by unfold n5;rw[HF.out,HNo.out,hS];rfl);have HRY:=aae hry;have HBY:=aae hby;have HYL:Hid (y.length=x.length):=aae (by
        unfold i5 at hS;split at hS
        ·split at hS
         ·cases hS
         cases hS;split<;>simp
        cases hS)
       clear hS hry hby;have HO5:=aae (D8 HOwn.out HE5.out);have HR5:=aae (cH HRow.out HE5.out);have t0:w5.cell? ⟨wo.heap.size,0,none⟩=some v:=HR5.out.cell (by omega);have t1:w5.frozen? ⟨wo.heap.size,0,none⟩=false:=HR5.out.frozen 0;have hslt:wo.heap.size<w5.heap.size:=HR5.out.lt;have HRd:Hid (Rd (w5.alloc (.cells #[.int .i64 key,.slice AY y.length cy] 177)) (some ⟨w5.heap.size,0,none⟩) (nY ⟨key,y,AY,cy⟩)):=aae (fun _=>⟨w5.heap.size,0,rfl,fun i u hu=>by
        simp_all[nY]⟩)
       go_wp2_with (at_builtin;refine jh _ rfl (.tmp 51) (.tmp 55) _ rfl (wo.heap.size+1) 177 (.agg #[.int .i64 0,.slice none 0 0]) 2 32 underlying171 Tryz.infoKeyed rfl (by omega) v k (mM L) rfl (HO5.out.alloc _) (some ⟨w5.heap.size,0,none⟩) 1 1 _ rfl HRd.out rfl (GQ _) (by simp only[maxLen];omega) (by omega) (by simp;omega) ?_;intro v6 w6 hown6 hg6 hb6;have HO6:=aae hown6;have HG6:=aae hg6;have HB6:=aae hb6;have hz6:w5.heap.size+1<=w6.heap.size:=(by have:=hg6.size;simpa using this);have s0:w6.cell? ⟨wo.heap.size,0,none⟩=some v:=(by refine hg6.cell (a:=⟨wo.heap.size,0,none⟩) (by rw[adh _ _ _ hslt];exact t0) (fun e=>?_);have:=(HO5.out.lt _ e.symm).1;simp at this;omega);have s1:w6.frozen? ⟨wo.heap.size,0,none⟩=false:=(by rw[adY (hg6.block wo.heap.size (by simp;omega) (fun e=>by have:=(HO5.out.lt _ e.symm).1;omega))];rw[adY (acW _ _ _ hslt)];exact t1);obtain⟨g6,cap6,f6,rfl,_,_,_,_,_⟩:=xM hown6 (by omega);clear hown6 hg6 hb6 t0 t1)
       go_roundw
       case rel=>
        have hne: ∀j,v.ownBlock=some j->wo.heap.size+1<=j:=fun j hj=>(HO5.out.lt j hj).1
        have hw5:Ext wo (w5.alloc (.cells #[.int .i64 key,.slice AY y.length cy] 177)):=(HE2.out.trans HE5.out).alloc _;have hw6:Ext wo w6:=hw5.grown HG6.out (fun j hj=>by grind);have hr6:w6.rowIs wo.heap.size 173 2 (Za v):=(HR5.out.alloc _).of_block (HG6.out.block wo.heap.size (by simp;omega) (fun e=>by have:=hne _ e.symm;omega));refine⟨k+1,L++[⟨key,y,AY,cy⟩],.slice (some ⟨g6,0,none⟩) (k+1) cap6,by omega,by go_num,aae ⟨by simp[HLen.out.1],fun h=>by omega⟩,aae (fun j it hj=>?_),aae ?_,aae ?_,aae (hw6.setCell (aaq _) _),aae (fun it hit=>?_)⟩
        ·rcases acO j L.length with h|h
         ·rw[aal h]at hj;exact HIt.out j it hj
         rw[aap h]at hj;have hj0:j-L.length=0:=by
          grind
         rw[hj0]at hj;simp at hj;subst hj;have:j=k:=by have:=HLen.out.1;omega
         subst this;exact⟨x,HX.out,HIO.out⟩
        ·rw[<- Dy];exact ownsRow_setCell_below HO6.out (by simp) _
        ·exact(hr6.set 0 _).congr (fun j hj=>by
          match j,hj with
          |0,_=>rfl
          |1,_=>rfl)
        rcases abe.1 hit with h|h
        ·obtain⟨q1,q2,q3⟩:=HIV.out it h;have r5:RdI .i64 (w5.alloc (.cells #[.int .i64 key,.slice AY y.length cy] 177)) it.at_ it.vals:=q1.ext (HE5.out.alloc _);have hsz:=HE5.out.size;refine⟨fun hn=>?_,q2,fun p hp=>?_⟩
         ·obtain⟨b',off',hb',hc'⟩:=r5 hn;obtain⟨q4,q5,q6⟩:=q3 _ hb';refine⟨b',off',hb',fun i u hu=>?_⟩;rw[adD _ _ _ _ (fun e=>by grind)];exact HG6.out.cell (hc' i u hu) (fun e=>q4 e.symm)
         obtain⟨q4,q5,q6⟩:=q3 p hp;refine⟨fun e=>?_,q5,by grind [World.setCell]⟩;rcases HB6.out with h6|h6
         ·grind
         rw[h6]at e;injection e with e
         simp at e;omega
        simp at h;subst h;have r5:RdI .i64 (w5.alloc (.cells #[.int .i64 key,.slice AY y.length cy] 177)) AY y:=HRY.out.ext ((Ext.refl _).alloc _);have hsz:=HE4.out.size;have hs2:=HE2.out.size;have hrl:=HRow.out.lt;have ho:=HOwn.out;have q3: ∀p,AY=some p->v.ownBlock≠some p.block/\wo.heap.size<p.block/\p.block<w5.heap.size:=fun p hp=>by
         obtain⟨h1,h2⟩:=HBY.out p hp;refine⟨fun e=>?_,by omega,h2⟩;have:=(ho.lt _ e).2;omega
        refine⟨fun hn=>?_,⟨by show y.length<=_;rw[HYL.out];omega,hcy⟩,fun p hp=>?_⟩
        ·obtain⟨b',off',hb',hc'⟩:=r5 hn;obtain⟨q4,q5,q6⟩:=q3 _ hb';refine⟨b',off',hb',fun i u hu=>?_⟩;rw[adD _ _ _ _ (fun e=>by grind)];exact HG6.out.cell (hc' i u hu) (fun e=>q4 e.symm)
        obtain⟨q4,q5,q6⟩:=q3 p hp;refine⟨fun e=>?_,q5,by grind [World.setCell]⟩;rcases HB6.out with h6|h6
        ·grind
        rw[h6]at e;injection e with e
        simp at e;omega
       grind [intOf]
   have hkl:k=l.length:=by omega
   have HIO:Hid (gE rows l=some (L.map NItem.dat)):=aae (ur (by rw[HLen.out.1,hkl]) HIt.out);by_cases hk0:0<k
   ·obtain⟨g,cap,f,rfl,hcap,hcm,hg,hrow,hf⟩:=xM HOwn.out hk0;have HLst:Hid (vU wr g (cap*2) L):=aae ⟨f,hrow,by rw[HLen.out.1];omega,fun j it hj=>by
     simp_all[zM]⟩
    have HIV2:=aae HIV.out;have hcon:=Ql wo.heap.size g cap L wr HLst.out (by rw[HLen.out.1];exact hcap) (by rw[HLen.out.1];omega) (fun it hit=>by
     obtain⟨q1,q2,q3⟩:=HIV.out it hit;exact⟨q1,fun p hp e=>(q3 p hp).1 (by simp[Value.ownBlock,e]),q2.1⟩) (by rw[HLen.out.1];exact HRow.out) (by omega)
    have HC:=aae hcon;have hglt:=hrow.lt;have hslt:=HRow.out.lt;clear hcon hf hrow hkl
    go_wp2_with fail
    refine HC.out.mono ?_;rintro e w5 ⟨L',rfl,hperm,hsort,hlst,hcell,hrow5,hblk,hsz,h1,h2,h3⟩;have HP:=aae hperm;have HSo:=aae hsort;have HL5:=aae hlst;have HE5:Hid (Ext wo w5):=aae ⟨h1.trans HE2.out.os,h2.trans HE2.out.tape,h3.trans HE2.out.output,aaj HE2.out.size hsz,fun j hj=>by
     rw[hblk j (aas hj HE2.out.size) (by omega) (by omega)];exact HE2.out.block j hj⟩
    have HIt5:Hid (∀it∈bu L',Yt .i64 w5 it.val it.vals):=aae (fun it hit=>by
     obtain⟨q1,q2,q3⟩:=HIV.out it (hperm.subset (uh hit));refine⟨it.at_,it.cap,rfl,q2.2,q2.1,fun hn=>?_⟩;obtain⟨b',off',hb',hc'⟩:=q1 hn;obtain⟨r1,r2,r3⟩:=q3 _ hb';refine⟨b',off',hb',fun i u hu=>?_⟩;rw[World.cell?_of_block (w:=wr) (hblk b' r3 (fun e=>r1 (by simp[Value.ownBlock,e])) (Nat.ne_of_gt r2))];exact hc' i u hu)
    have HBk:Hid (∀it∈bu L',∀p,it.at_=some p->wo.heap.size<p.block/\p.block<w5.heap.size):=aae (fun it hit p hp=>by
     obtain⟨q1,q2,q3⟩:=HIV.out it (hperm.subset (uh hit));obtain⟨r1,r2,r3⟩:=q3 _ hp;omega)
    have hm:(bu L').length<=65536:=by
     have h1:=Dd L';have h2:=hperm.length_eq;rw[HLen.out.1]at h2;omega
    have hmk:=run_make_row' (P:=prog) 26 35 (.slice none 0 0) 24 underlying26 Tryz.infoSlI64 rfl .i64 .i64 (bu L').length (by omega) (by omega);have hcell2: ∀o,(w5.alloc o).cell? ⟨wo.heap.size,0,none⟩=some (.slice (some ⟨g,0,none⟩) (bu L').length cap):=fun o=>by rw[adh _ _ _ (by show wo.heap.size<_;omega)];exact hcell
    have HS0:=aae (adf w5 (.slice none 0 0) (bu L').length 35);clear hperm hsort hlst hrow5 hblk h1 h2 h3 HC
    go_wp2_with fail
    clear hmk hcell2 hcell
    go_loopw [67,14,15] (fun i _ _ wx=> ∃m:Nat,m<=(bu L').length/\i= .int .i64 m/\Hid (wx.rowIs w5.heap.size 35 (bu L').length (Pw (bu L') m))/\Hid (Ext w5 wx)) (fun i _ _ _=>(bu L').length-(intOf i).toNat)
    case atStart=>exact⟨0,aaW _,rfl,aae (HS0.out.congr (fun j _=>by simp[Pw])),aae ((Ext.refl _).alloc _)⟩
    case round=>
     clear HS0;obtain⟨wp,rfl⟩: ∃wp:World,wp=wr:=⟨_,rfl⟩;obtain⟨m,hmm,rfl,HO,HX5⟩:=hrel;by_cases hml:m<(bu L').length
     ·obtain⟨it,hit⟩:=getElem?_of_lt hml;have HIT:=aae hit;have t1:=(HL5.out.ext HX5.out).cell0 hit;have t2:=(HL5.out.ext HX5.out).cell1 hit;have hlt5:=HO.out.lt;have t3: ∀o,(wp.alloc o).cell? ⟨w5.heap.size,m,none⟩=some (.slice none 0 0):=fun o=>by
       rw[(HO.out.alloc o).cell hml];simp[Pw]
      have t4: ∀o,(wp.alloc o).frozen? ⟨w5.heap.size,m,none⟩=false:=fun o=>(HO.out.alloc o).frozen m
      clear hit
      go_wp2_with fail
      go_roundw
      case rel=>
       refine⟨m+1,by omega,by go_num,aae (((HO.out.set m _).congr (fun j _=>?_)).alloc _),aae ((HX5.out.setCell (aaq _) _).alloc _)⟩;unfold Pw;by_cases e:j=m
       ·subst e;rw[if_pos rfl,if_pos (by omega),HIT.out];rfl
       rw[if_neg e];by_cases e2:j<m
       ·rw[if_pos e2,if_pos (by omega)]
       rw[if_neg e2,if_neg (by omega)]
      case measure=>simp[intOf];omega
     go_wp2_with fail
     go_ret2
     have hmeq:m=(bu L').length:=by omega
     refine⟨?_,(HE.out.trans HE5.out).trans HX5.out⟩;rw[HIO.out];have hsw:=HE.out.size;have hs5:=HE5.out.size;have hs6:=HX5.out.size;have hnew:RO w.heap.size wp (some ⟨w5.heap.size,0,none⟩) ((bu L').map NItem.vals):=by
      refine⟨by simp_all,w5.heap.size,rfl,by omega,HO.out.lt,fun i r hr=>?_⟩;rw[List.getElem?_map]at hr;cases hci:(bu L')[i]? with
      |none=>simp_all
      |some it=>
       rw[hci]at hr;simp at hr;subst hr;have hil:=(aaf.1 hci).1;have hmem:=u5 hci;obtain⟨A1,c1,e1,e2,e3,e4⟩:=(HIt5.out it hmem).ext HX5.out;refine⟨it.at_,it.cap,?_,?_,e3,?_,fun p hp=>?_⟩
       ·rw[HO.out.cell hil];unfold Pw;rw[if_pos (by omega),hci];rfl
       ·simp_all[NItem.val]
       ·simp_all[NItem.val]
       have:=HBk.out it hmem p hp;omega
     refine⟨L',HP.out.map NItem.dat,HSo.out,some ⟨w5.heap.size,0,none⟩,rfl,fun _=>⟨w5.heap.size,0,rfl,fun i r hr=>?_⟩,hnew⟩;obtain⟨_,b1,e1,_,_,e2⟩:=hnew;injection e1 with e1
     injection e1 with e1
     subst e1;obtain⟨A1,c1,e3,e4,e5,e6,_⟩:=e2 i r hr;exact⟨_,by rw[aaO];exact e3,A1,c1,rfl,e4,e5,e6⟩
   have hv:=HLen.out.2 (by omega);have hL0:L=[]:=acg (by rw[HLen.out.1];omega);subst hv hL0;have HC:=aae (Qm wo.heap.size wr HRow.out);have hslt:=HRow.out.lt;clear hkl
   go_wp2_with fail
   refine HC.out.mono ?_;rintro e w5 ⟨rfl,hcell,hblk,hsz,h1,h2,h3⟩;have HE5:Hid (Ext wo w5):=aae ⟨h1.trans HE2.out.os,h2.trans HE2.out.tape,h3.trans HE2.out.output,aaj HE2.out.size hsz,fun j hj=>by
    rw[hblk j (aas hj HE2.out.size) (by omega)];exact HE2.out.block j hj⟩
   have hmk: ∀w:World,(Instr.makeSlice 26 (.int .i64 0) (.int .i64 0)).run prog w= .ok (.slice (some ⟨w.heap.size,0,none⟩) 0 0) (w.alloc (.cells (madeCells #[.slice none 0 0] 0) 35)):=run_make_row' (P:=prog) 26 35 (.slice none 0 0) 24 underlying26 Tryz.infoSlI64 rfl .i64 .i64 0 (by omega) (by omega);have hcell2: ∀o,(w5.alloc o).cell? ⟨wo.heap.size,0,none⟩=some (.slice none 0 0):=fun o=>by rw[adh _ _ _ (by show wo.heap.size<_;omega)];exact hcell
   clear hblk h1 h2 h3 HC
   go_wp2_with fail
   refine wp_loop_rounds 1 ?_;rw[rounds_succ]
   go_wp2_with fail
   go_ret2
   refine⟨?_,(HE.out.trans HE5.out).alloc _⟩;rw[HIO.out];exact⟨[],.refl _,(by intro i j a b _ h;simp at h),some ⟨w5.heap.size,0,none⟩,rfl,sG.nil _ _ _,by simp[bu],w5.heap.size,rfl,by have:=HE.out.size;omega,by simp,by simp_all[bu]⟩
instance (a b:Int×List Int):Decidable (Bx a b):=inferInstanceAs (Decidable (_\/_))
theorem wO {a:NItem}:jV a s<0↔Bx a.dat s.dat:=by unfold jV Bx;rw[IL];rfl
theorem Dt {a:NItem}:xb a s=true↔a.dat=s.dat:=by
 unfold xb jV;rw[beq_iff_eq,KJ];constructor
 ·rintro⟨c,e⟩;exact Prod.ext c e
 intro h;exact⟨congrArg Prod.fst h,congrArg Prod.snd h⟩
theorem ue: ∀{l:List NItem} {p:NItem},(∀(i j:Nat) a b,i<j->(p::l)[i]?=some a->(p::l)[j]?=some b-> ¬jV b a<0)->
  Ik ((p::dz p l).map NItem.dat)/\ ∀y,y∈(p::dz p l).map NItem.dat↔y∈(p::l).map NItem.dat
 |[],p,_=>by simp[dz,Ik]
 |b::l,p,h=>by
  have n: ∀(i j:Nat) a c,i<j->(b::l)[i]?=some a->(b::l)[j]?=some c-> ¬jV c a<0:=fun i j a c u x m=>h (i+1) (j+1) a c (by omega) (by grind) (by grind)
  obtain⟨s,t⟩:=ue n;have g: ¬jV b p<0:=h 0 1 p b (by omega) rfl rfl;unfold dz;split
  ·grind [Dt]
  rename_i e;rw[Dt]at e;refine⟨?_,fun y=>?_⟩
  ·rw[aaC];refine acs.2 ⟨fun y o=>?_,s⟩;rw[t y]at o;obtain⟨c,m,rfl⟩:=aai.1 o;obtain⟨j,z,v⟩:=abA m;have q: ¬jV c p<0:=h 0 (j+1) p c (by omega) rfl (by grind);rw[wO]at q;by_cases f:Bx p.dat c.dat
   ·exact f
   have r:=tl q f;exfalso;have w: ¬jV c b<0:=by
    cases j with
    |zero=>grind
    |succ j=>exact n 0 (j+1) b c (by omega) rfl (by grind)
   rw[wO,r]at w;rw[wO]at g;grind [tl]
  grind
theorem A9 {b:List (Int×List Int)} (f:(p.map NItem.dat).Perm b) (c:qw p):(bu p).map NItem.dat=iV b:=by
 have e:Ik ((bu p).map NItem.dat)/\ ∀y,y∈(bu p).map NItem.dat↔y∈p.map NItem.dat:=by
  cases p with
  |nil=>simp[bu,Ik]
  |cons a l=>exact ue c
 grind [IE,MD,AH]
theorem qK {b:List (Int×List Int)} (c:(p.map NItem.dat).Perm b) (e:qw p):(bu p).map NItem.vals=(iV b).map Prod.snd:=by
 rw[<- A9 c e,abn];rfl
def SUV (c:World) (r:Option (List (Int×List Int))) (e:Ending):Prop:=match r with
 |none=>e= .returned (.tuple #[.slice none 0 0,.bool false])
 |some b=> ∃A,e= .returned (.tuple #[.slice A ((iV b).map Prod.snd).length ((iV b).map Prod.snd).length,.bool true])/\sG .i64 c A ((iV b).map Prod.snd)
def ZG (c:Nat) (f:World) (r:Option (List (Int×List Int))) (e:Ending):Prop:=match r with
 |none=>e= .returned (.tuple #[.slice none 0 0,.bool false])
 |some b=> ∃A,e= .returned (.tuple #[.slice A ((iV b).map Prod.snd).length ((iV b).map Prod.snd).length,.bool true])/\RO c f A ((iV b).map Prod.snd)
theorem Fl.plain {r:Option (List (Int×List Int))} {e:Ending} (h:Fl n w r e):SUV w r e/\ZG n w r e:=by
 cases r with
 |none=>exact⟨h,h⟩
 |some g=>
  obtain⟨L,j,l,A,m,f,b⟩:=h;rw[qK j l]at f b;have c:e= .returned (.tuple #[.slice A ((iV g).map Prod.snd).length ((iV g).map Prod.snd).length,.bool true]):=by
   grind [qK]
  exact⟨⟨A,c,f⟩,A,c,b⟩
theorem yo (A B:Option Addr) (c d:Nat) (b l:List (List Int)) (w:World) (j:sG .i64 w A b) (n:sG .i64 w B l) (p:b.length<=9223372036854775807) (m:b.length<=c) (o:l.length<=65536):
  Calls prog 89 #[.slice A b.length c,.slice B l.length d] w fun e f=>ZG w.heap.size f (if isReducedM b then gE b l else none) e/\Ext w f:=
 (yn A B c d b l w j n p m o).mono fun _ _ ⟨g,h⟩=>⟨g.plain.2,h⟩
def gO (x:List Int):Int:=match x.find? (fun c=>c !=0)with|none=>0|some c=>if c<0 then -1 else 1
theorem Ha (x:List Int):gO x=0\/gO x=1\/gO x= -1:=by
 grind [gO]
theorem FX (h:E9 q=true):i5 q=if gO q=0 then none else some (q.map fun a=>gO q*a):=by
 unfold i5 gO;rw[h];cases e:q.find? (fun c=>c !=0)with
 |none=>simp
 |some c=>
  simp only[if_true];by_cases b:c<0
  ·simp[b]
  simp[b]
def Sp (x:List Int):List Int:=x.map fun a=>gO x*a
theorem LX:gO q=0↔ ∀c∈q,c=0:=by
 grind [gO]
theorem yk (b:x=1\/x= -1):gO (q.map fun a=>x*a)=x*gO q:=by
 unfold gO;rw[List.find?_map];have e:((fun c:Int=>c !=0)∘fun a=>x*a)=fun c:Int=>c !=0:=by
  grind
 grind
theorem Sr (b:x=1\/x= -1):Sp (q.map fun a=>x*a)=Sp q:=by
 unfold Sp;rw[yk b,abn];grind [List.map_congr_left]
section
structure UQ (P:Program) (b:Nat) (ty:TypeId) (cs:List PV) where
 i:Nat
 f:FuncId
 args:List TV
 res:CallRes
 h:CallT P b ty f args cs res cs
 ok:lentOk args res cs=true
def UQ.a {P:Program} {b:Nat} {g:TypeId} {e:List PV} (c:UQ P b g e):cB P:=⟨c.i,c.f,c.args,c.res⟩
section
variable {P:Program} {b:Nat} {ty:TypeId} {cs:List PV} {Q:Exit->AS->List PV->Prop} {s:AS}
end
end
section
def AN (b:Nat) (_ty:TypeId) (c:List PV) (w:World):Prop:=
 b<w.heap.size/\ ∀(j:Nat) x,c[j]?=some x-> ∃v:Value,x= .raw v/\w.cell? ⟨b,j,none⟩=some v/\v.oneCell'=true
theorem AN.lt (c:AN n h g w):n<w.heap.size:=c.1
def uK (b:Nat) (f:TypeId) (c:World) (O X:Nat->Prop) (s:AS) (e:List PV) (a:Act) (w:World):Prop:=da c O X s a w/\AN b f e c/\ ¬O b
theorem uK.box {e:World} {O X:Nat->Prop} {s:AS} {a:Act} (c:uK n h w O X s g a e):AN n h g e:=by
 obtain⟨⟨_,_,u,f,_⟩,m,r⟩:=c;have l:=m.lt;refine⟨aas l f.keep.size,fun j x t=>?_⟩;obtain⟨v,o,p,q⟩:=m.2 j x t;exact⟨v,o,by rw[gm (f.keep.block n l r)];exact p,q⟩
section
variable {P:Program} {b:Nat} {ty:TypeId} {cs cs':List PV} {s s':AS} {w0 w:World} {O X:Nat->Prop} {a:Act}
def nM (P:Program) (b:Nat) (ty:TypeId) (c:Code) (Q:Exit->AS->List PV->Prop) (s:AS) (cs:List PV):Prop:=
 ∀(w0:World) (O X:Nat->Prop) (a:Act) (w:World),uK b ty w0 O X s cs a w->c.wp P (fun e f g=> ∃s' cs',Q e s' cs'/\uK b ty w0 O X s' cs' f g) a w
variable {Q:Exit->AS->List PV->Prop}
theorem VO (h:bo P e (fun f s'=>Q f s' cs) s):nM P b ty e Q s cs:=fun w0 O X a w r=>
 wp_mono (h _ _ _ _ _ r.1) fun f l m ⟨s',g,j⟩=>⟨s',cs,g,j,r.2⟩
theorem uK.weak (h:bD s s') (r:uK b ty w0 O X s cs a w):uK b ty w0 O X s' cs a w:=⟨h _ _ _ _ _ r.1,r.2⟩
theorem nM.weak (h:bD s s') (k:nM P b ty e Q s' cs):nM P b ty e Q s cs:=fun _ _ _ _ _ r=>k _ _ _ _ _ (r.weak h)
theorem CP (h:Q .normal s cs):nM P b ty .skip Q s cs:=fun _ _ _ _ _ r=>wp_skip ⟨s,cs,h,r⟩
theorem R5 (h:Q .ret s cs):nM P b ty .ret Q s cs:=fun _ _ _ _ _ r=>wp_ret ⟨s,cs,h,r⟩
theorem Iw (h:nM P b ty e (pw (nM P b ty f Q) Q) s cs):nM P b ty (.seq e f) Q s cs:=fun _ _ _ _ _ r=>
 wp_seq (wp_mono (h _ _ _ _ _ r) fun c a w ⟨s',cs',g,j⟩=>by
  cases c with
  |normal=>exact g _ _ _ _ _ j
  |_=>exact⟨s',cs',g,j⟩)
theorem CO {v:Bool} (n:s.ev j=some (.raw (.bool v))) (q:v=true->nM P b ty e Q s cs) (o:v=false->nM P b ty f Q s cs):nM P b ty (.cond j e f) Q s cs:=fun _ _ _ _ _ r=>by
 obtain⟨⟨t,p,u,l,g⟩,_⟩:=id r;have m:=(aV (be g j _ n)).1;exact wp_cond_split m (fun h=>q h _ _ _ _ _ r) (fun h=>o h _ _ _ _ _ r)
theorem VN (g:s.ev j=some (.raw (.bool true))) (h:nM P b ty e Q s cs):nM P b ty (.cond j e f) Q s cs:=CO g (fun _=>h) (fun h=>by cases h)
theorem VM (g:s.ev j=some (.raw (.bool false))) (h:nM P b ty f Q s cs):nM P b ty (.cond j e f) Q s cs:=CO g (fun h=>by cases h) (fun _=>h)
/-! Regions. -/
theorem M4 (c:List (ao P)) (f:List Nat) {id:Nat} (h: ∀K:AS->Prop,(∀s',nM P b ty e Q s' cs->K s')->aT P (c.map ao.a) f (aJ o o.toList 0) (some s) K):nM P b ty (.seq (.region id o false) e) Q s cs:=
 Iw (VO (qy c f (h _ fun _ h=>h)))
theorem zi {id:Nat} (h: ∀K:AS->Prop,(∀s',nM P b ty e Q s' cs->K s')->aT P [] [] (aJ o o.toList 0) (some s) K):nM P b ty (.seq (.region id o false) e) Q s cs:=M4 [] [] h
def CallG (P:Program) (b:Nat) (ty:TypeId) (f:FuncId) (args:List TV) (cs:List PV) (res:CallRes):Prop:=callable P f=true/\ ∀w,AN b ty cs w->Fg P f args res w
theorem NE {args:List TV} {res:CallRes} (u:P.funcs[r]?=some t) (q:t.body=some e) (l:callable P r=true) (h:nM P b ty e (fun g s k=>(g= .normal\/g= .ret)/\k=cs/\ ∃s',bD s s'/\np P t res s') ⟨args++ae (t.ntmps-args.length) .undef,fun _=>[]⟩ cs):CallG P b ty r args cs res:=
 ⟨l,fun w v=>wJ (AN b ty cs) u q l (fun w0 X a p j=>wp_mono (h w0 _ X a w0 ⟨j,p,fun h=>h⟩) fun g x y ⟨s',k,⟨m,_,n⟩,o⟩=>⟨s',⟨m,n⟩,o.1⟩) w v⟩
end
structure lR (P:Program) (b:Nat) (ty:TypeId) (cs:List PV) where
 i:Nat
 f:FuncId
 args:List TV
 res:CallRes
 h:CallG P b ty f args cs res
 ok:cs=cs
def lR.a {P:Program} {b:Nat} {g:TypeId} {e:List PV} (c:lR P b g e):cB P:=⟨c.i,c.f,c.args,c.res⟩
section
variable {P:Program} {b:Nat} {ty:TypeId} {cs cs':List PV} {s s':AS} {w0 w:World} {O X:Nat->Prop} {a:Act} {Q:Exit->AS->List PV->Prop}
theorem K7 (c:List (ao P)) (e:List (lR P b ty cs)) (g:AN b ty cs w):ms P (c.map ao.a++e.map lR.a) w:=fun j f=>by
 rcases abe.1 f with h|h
 ·exact(ao.ok c).at w j h
 obtain⟨x,_,rfl⟩:=aai.1 h;exact x.h.2 w g
theorem Xu (f:List (ao P)) (g:List (lR P b ty cs)) {i:Nat} {c:Oper} {m:AS} (e:uK b ty w0 O X s cs a w) (h:aS P (f.map ao.a++g.map lR.a) l o i c s=some m) {K:Act->World->Prop} {Q:Exit->Act->World->Prop} (n: ∀v j,uK b ty w0 O X m cs (a.put c.dst v) j->K (a.put c.dst v) j):if Region.wanted c (yielded o a.tmps)then c.wp P a w K Q else K (a.put c.dst undef) w:=
 tY (K7 f g e.box) e.1 h fun v j p=>n v j ⟨p,e.2⟩
theorem P3 (c:List (ao P)) (e:List (lR P b ty cs)) {z:List Nat} {f:Array Oper} {Q:Exit->Act->World->Prop}:
  ∀(l:List Oper) (k:Nat) (s s':AS) (a:Act) (w:World),(∀(j:Nat) o,l[j]?=some o->f[k+j]?=some o)->f7 P (c.map ao.a++e.map lR.a) z f (l.zipIdx k) s=some s'->uK b ty w0 O X s cs a w->
   (∀q p,uK b ty w0 O X s' cs q p->Q .normal q p)->wpOps P f Q (List.range' k l.length) a w
 |[],k,s,s',a,w,_,h,r,g=>by
  simp only[acw,f7]at h;injection h with h
  subst h;exact g a w r
 |o::l,k,s,s',a,w,t,h,r,g=>by
  simp only[abO,f7]at h;split at h
  ·rename_i A m;simp only[aaG,aa1,wpOps];have x:f[k]?=some o:=by have:=t 0 o rfl;simpa using this
   rw[x];simp only;have:=Xu (Q:=Q) c e r m (K:=wpOps P f Q (List.range' (k+1) l.length)) (fun v p y=>P3 c e l (k+1) A s' _ _ (fun j o u=>by have:=t (j+1) o (by simpa using u);rwa[show k+(j+1)=k+1+j by omega]at this) h y g);split at this
   ·rename_i n;rw[if_pos n];exact .inl this
   rename_i n;rw[if_neg n];exact this
  cases h
theorem Kn (g:List (lR P b ty cs)) (f:List (ao P)) (m:List Nat) {id:Nat} (h:aT P (f.map ao.a++g.map lR.a) m (aJ o o.toList 0) (some s) (fun s'=>Q .normal s' cs)):nM P b ty (.region id o false) Q s cs:=fun w0 O X a w r=>by
 obtain⟨s',p,q⟩:=aO P _ m o o.toList 0 s _ h;refine wp_region ?_;rw[aax];have:=P3 (w0:=w0) (O:=O) (X:=X) f g (Q:=fun e l n=> ∃s' k,Q e s' k/\uK b ty w0 O X s' k l n) o.toList 0 s s' a w (fun j c t=>by simpa using t) p r (fun l n u=>⟨s',cs,q,u⟩);simpa using this
theorem Fu (f:List (lR P b ty cs)) (c:List (ao P)) (g:List Nat) {id:Nat} (h: ∀K:AS->Prop,(∀s',nM P b ty e Q s' cs->K s')->aT P (c.map ao.a++f.map lR.a) g (aJ o o.toList 0) (some s) K):nM P b ty (.seq (.region id o false) e) Q s cs:=
 Iw (Kn f c g (h _ fun _ h=>h))
end
end
section
theorem CallC.nilA {P:Program} {args:List TV} {res:CallRes} {k:Nat} (h:CallC P r args res) (l:args[k]?=some (.one (.p (.sl [])))):CallC P r (args.set k (.one (.p (.raw (.slice none 0 0))))) res:=by
 have n:=(aaf.1 l).1;refine⟨h.1,fun X w vs m c e=>h.2 X w vs m (by simpa using c) fun j t b=>?_⟩;by_cases g:j=k
 ·subst g;obtain⟨v,o,q⟩:=e j _ (aa2 n);rw[l]at b;injection b with b
  subst b;have:=(aV (ρ:=fun _ _=>none) (H:=fun _=>[]) q).1;subst this;exact⟨_,o,bQ.nil _ _⟩
 exact e j t (by rw[aaI (abD g)];exact b)
theorem lP.nilA {P:Program} {args:List TV} {F u:List OObj} {e:TV} {k:Nat} (h:lP P r args n m F u e) (z:args[k]?=some (.one (.p (.sl [])))) (D:k≠n):lP P r (args.set k (.one (.p (.raw (.slice none 0 0))))) n m F u e:=by
 have C:=(aaf.1 z).1;refine⟨h.able,h.noref,h.head,fun X w vs A b c B s q o x=>h.calls X w vs A b c B s (by simpa using q) o fun j t g l=>?_⟩;by_cases y:j=k
 ·subst y;obtain⟨v,E,G⟩:=x j _ g (aa2 C);rw[z]at l;injection l with l
  subst l;have:=(aV (ρ:=fun _ _=>none) (H:=fun _=>[]) G).1;subst this;exact⟨_,E,bQ.nil _ _⟩
 exact x j t g (by rw[aaI (abD y)];exact l)
section
variable {P:Program} {s:AS} {Q:Exit->AS->Prop}
theorem Ro {g:World} {O X:Nat->Prop} {a:Act} (B:da w O X s a g) {o:Oper} {c:Call} {f:FuncId} (ho:o.op= .call c) (z:c.callee= .value (.func f)) {args:List TV} {res:CallRes} (q:CallC P f args res) {d:Nat} (G:eK s.ev c.args.toList=some args) (M:args.all tB=true) (hd:res.fam≠[]->s.H d=[]) (A:o.dst=some d) {K:Act->World->Prop} {Q:Exit->Act->World->Prop} (Z: ∀v S,da w O X (iW s d (renTV d res.r) (res.fam.map (renO d))) (a.put o.dst v) S->K (a.put o.dst v) S):o.wp P a g K Q:=by
 obtain⟨Y,I,D,l,p⟩:=B;have p:aX X D s a g:=p;obtain⟨T,U⟩:=bP G;have C:=f9 (w:=g) ho z (e:=a.eval) rfl q.1;unfold Oper.wp;rw[C];simp only[Oper.upon];rw[aah]at M;have L: ∀b,(if res.plain then(fun _=>False)else Xo X D s.H:Nat->Prop) b->Xo X D s.H b:=fun b m=>by
  split at m
  ·exact m.elim
  exact m
 have t: ∀b,Xo X D s.H b->b<g.heap.size:=fun b m=>by
  rcases m with m|⟨x,y,o',n,V,W⟩
  ·exact l.bar b m
  exact bf (l.objs x y o' V) W
 refine(q.2 (if res.plain then(fun _=>False)else Xo X D s.H) g (c.args.map a.eval) (fun b m=>t b (L b m)) (by simp[T]) fun j u N=>?_).mono ?_
 ·obtain⟨y,R,J⟩:=U j u N;exact⟨a.eval y,by rw[aaS];simp at R;rw[R];rfl,qc L (M u (u5 N)) (be p y u J)⟩
 rintro e F ⟨v,rfl,E,hi,hr⟩;show K (a.put o.dst v) F;have:=l4 (P:=P) (it:=(⟨0,f,args,res⟩:cB P)) (d:=d) (v:=v) (w1:=F) (ρc:=E) Y I l p rfl rfl (fun h:res.fam.map (renO d)≠[]=>hd (by simpa using h)) hi hr;rw[<- A]at this;exact Z v F this
structure Yk (ops:Array Oper) (m:Nat) (f:FuncId) (args:List TV) (res:CallRes) (s:AS):Prop where
 ts:cwTs ops m s=some (f,args)
 dst: ∃d,cwD ops m=some d/\(res.fam≠[]->s.H d=[])
theorem Ki (m:Nat) {args:List TV} {res:CallRes} (q:CallC P r args res) (R:args.all tB=true) (g:List (ao P)) (y:List Nat) {id:Nat} (C:m<o.toList.length) (h:aT P (g.map ao.a) y (aJ o (o.toList.take m) 0) (some s) (fun A=>Yk o m r args res A/\aT P (g.map ao.a) y (aJ o (o.toList.drop (m+1)) (m+1)) (some (Zq o m res A)) (Q .normal))):bo P (.region id o false) Q s:=fun Y O X a w W=>by
 obtain⟨A,J,⟨l,⟨d,z,U⟩⟩,K⟩:=aO P (g.map ao.a) y o _ 0 s _ h;obtain⟨x,L,M⟩:=aO P (g.map ao.a) y o _ (m+1) _ _ K;obtain⟨b,E⟩: ∃b,o[m]?=some b:=⟨o[m],by simp at C;simp[C]⟩;have t:b.dst=some d:=by
  unfold cwD at z;rw[E]at z;exact z
 unfold cwTs at l;rw[E]at l;simp only at l;split at l
 ·rename_i c N u;split at l
  ·rename_i Z p;split at l
   ·rename_i ts H;injection l with l
    injection l with l T
    subst l T;refine wp_region ?_;have G:o.size=(o.toList.take m).length+(1+(o.toList.drop (m+1)).length):=by simp at C⊢;omega
    rw[G,aax,<- abf,aaO];have D:(o.toList.take m).length=m:=by rw[abc];omega
    refine mo (ao.ok g) (o.toList.take m) 0 s A a w (fun j b n=>?_) J W fun B I V=>?_
    ·rw[aaH]at n;split at n
     ·simpa using n
     cases n
    rw[D,abX 1,aa1];simp only[wpOps,E];rw[if_pos (by simp[Region.wanted,N])];refine .inl (Ro V u p q H R U t fun v w1 F=>?_);refine ic (ao.ok g) (Q:=fun e B I=> ∃x,Q e x/\da Y O X x B I) (o.toList.drop (m+1)) (m+1) _ x _ _ (fun j b n=>?_) L ?_ (fun B I S=>⟨x,M,S⟩)
    ·rw[aaN]at n;simpa using n
    unfold Zq;rw[z];exact F
   cases l
  cases l
 cases l
theorem Ft (m:Nat) {args:List TV} {res:CallRes} (c:CallC P r args res) (p:args.all tB=true) (b:List (ao P)) (j:List Nat) {id:Nat} (n:m<o.toList.length) (h: ∀K:AS->Prop,(∀g,(Yk o m r args res g/\ ∀K:AS->Prop,(∀l,bo P e Q l->K l)->aT P (b.map ao.a) j (aJ o (o.toList.drop (m+1)) (m+1)) (some (Zq o m res g)) K)->K g)->aT P (b.map ao.a) j (aJ o (o.toList.take m) 0) (some s) K):bo P (.seq (.region id o false) e) Q s:=
 ai (Ki m c p b j n (h _ fun g ⟨q,t⟩=>⟨q,t _ fun _ h=>h⟩))
end
end
section
theorem La (h: ¬n=0):n/4294967296<n:=Nat.div_lt_self (by omega) (by omega)
def au (n:Nat):List Nat:=if n=0 then[]else n%4294967296::au (n/4294967296)
termination_by n
decreasing_by omega
def fR {b:Type} (f:b->List PV) (r:List b):List PV:=[.sl (ls f r)]
def fZ (z:Int):List PV:=[.raw (.bool (decide (z<0))),.sl (ls fU (au z.natAbs))]
def cZ (z:Int):List AV:=[.p (.raw (.bool (decide (z<0)))),.p (.sl (ls fU (au z.natAbs)))]
abbrev tZ (z:Int):TV:= .agg [.p (.raw (.bool (decide (z<0)))),.p (.sl (ls fU (au z.natAbs)))]
abbrev cK (l:List Nat):TV:= .one (.p (.sl (ls fU l)))
abbrev dF (M:List (List Int)):TV:= .one (.p (.sl (ls (fR fZ) M)))
abbrev dn (M:List (List Int)):TV:= .one (.p (.sl (ls (fR fI) M)))
abbrev kE (l:List Int):TV:= .one (.p (.sl (ls fI l)))
abbrev y6 (l:List Int):TV:= .one (.p (.sl (ls fZ l)))
abbrev Cf (l:List Nat):TV:= .one (.p (.sl (ls fN l)))
def WC (a:Int×List Int):List PV:=[.raw (.int .i64 a.1),.sl (ls fI a.2)]
abbrev slT (l:List (Int×List Int)):TV:= .one (.p (.sl (ls WC l)))
abbrev tIt (k:Int) (x:List Int):TV:= .agg [.p (.raw (.int .i64 k)),.p (.sl (ls fI x))]
abbrev tR (n d:Int):TV:= .agg [.p (.raw (.bool (decide (n<0)))),.p (.sl (ls fU (au n.natAbs))),.p (.raw (.bool (decide (d<0)))),.p (.sl (ls fU (au d.natAbs)))]
abbrev csT (x:List Int) (b:Bool):TV:= .tup [(false,[.p (.sl (ls fI x))]),(false,[.p (.raw (.bool b))])]
abbrev jk:TV:= .one .junk
def j4 (l:List TV):List TV:=jk::jk::jk::jk::l
def j16 (l:List TV):List TV:=j4 (j4 (j4 (j4 l)))
def rN (n:Nat):TV:= .raw (.int .i64 (n:Int))
theorem HmA:Hm []=fun _=>[]:=rfl
theorem HmB (k:Nat) (F:List OObj) (l:List (Nat×List OObj)):Hm ((k,F)::l)=fun a=>if a=k then F else Hm l a:=rfl
def wk:=u7 @Vr.eq_1<|u7 @Vr.eq_2<|u7 @Vr.eq_3<|u7 @Tl.eq_def<|u7 @D5.eq_def<|u7 @j4.eq_1<|u7 @j16.eq_1<|u7 @rN.eq_1<|True.intro
def kd:=u7 @AS.ev.eq_def<|u7 @AS.put.eq_def<|u7 @Bool.and_false<|u7 @Bool.and_self<|u7 @Bool.and_true<|u7 @aa5<|u7 @Bool.not_false<|u7 @aek<|u7 @ael<|u7 @Bool.or_true<|u7 @adL<|u7 @ao.a.eq_1<|u7 @CallRes.plain.eq_1<|u7 @HmA<|u7 @HmB<|u7 @Int.natCast_nonneg<|u7 @Int.toNat_natCast<|u7 @List.all_cons.{0}<|u7 @List.all_nil.{0}<|u7 @List.append_nil.{0}<|u7 @List.cons_append.{0}<|u7 @List.contains_cons.{0}<|u7 @List.contains_nil.{0}<|u7 @List.drop_succ_cons.{0}<|u7 @List.drop_zero.{0}<|u7 @List.find?_cons.{0}<|u7 @List.find?_nil.{0}<|u7 @List.getElem?_cons_succ.{0}<|u7 @List.getElem?_cons_zero.{0}<|u7 @List.getElem?_toArray.{0}<|u7 @List.isEmpty_cons.{0}<|u7 @List.isEmpty_nil.{0}<|u7 @List.isEmpty_toArray.{0}<|u7 @List.length_cons.{0}<|u7 @List.length_map.{0,0}<|u7 @List.length_nil.{0}<|u7 @List.map_cons.{0,0}<|u7 @List.map_nil.{0,0}<|u7 @List.nil_append.{0}<|u7 @List.set_cons_succ.{0}<|u7 @List.set_cons_zero.{0}<|u7 @List.take_succ_cons.{0}<|u7 @List.take_zero.{0}<|u7 @aa3<|u7 @aaq<|u7 @aaO<|u7 @Option.bind_some.{0,0}<|u7 @Option.map_none.{0,0}<|u7 @Option.map_some.{0,0}<|u7 @underlying116<|u7 @underlying165<|u7 @underlying2<|u7 @underlying25<|u7 @underlying5<|u7 @Value.oneCell'.eq_def<|u7 @Sb<|u7 @VY<|u7 @and_false<|u7 @and_self<|u7 @and_true<|u7 @YB.eq_def<|u7 @beq_self_eq_true.{0}<|u7 @d7.eq_def<|u7 @FU.eq_def<|u7 @cellsOf.eq_def<|u7 @ZO<|u7 @ZP<|u7 @decide_false<|u7 @decide_true<|u7 @b9.eq_def<|u7 @gn.eq_def<|u7 @i7.eq_def<|u7 @bU.eq_def<|u7 @eK.eq_1<|u7 @eK.eq_2<|u7 @zJ.eq_def<|u7 @KX.eq_def<|u7 @fI.eq_1<|u7 @fN.eq_1<|u7 @fU.eq_1<|u7 @false_and<|u7 @jy.eq_1<|u7 @jy.eq_2<|u7 @dN.eq_def<|u7 @fc.eq_def<|u7 @ifF<|u7 @ifT<|u7 @if_false.{1}<|u7 @if_true.{1}<|u7 @Gw.eq_def<|u7 @isPure.eq_def<|u7 @aN.eq_def<|u7 @jC.eq_1<|u7 @aP.eq_def<|u7 @Jh<|u7 @GF<|u7 @fT<|u7 @Bu<|u7 @vo<|u7 @kC<|u7 @Bv<|u7 @oS<|u7 @iH<|u7 @gR<|u7 @pW.eq_1<|u7 @pW.eq_2<|u7 @S4<|u7 @fX<|u7 @dU<|u7 @WP<|u7 @WQ<|u7 @S5<|u7 @RB.eq_def<|u7 @Ll<|u7 @yV.eq_def<|u7 @gZ.eq_def<|u7 @Ae.eq_def<|u7 @xA.eq_def<|u7 @fJ.eq_def<|u7 @noRefTV.eq_def<|u7 @ib.eq_def<|u7 @dV.eq_def<|u7 @oX.eq_def<|u7 @Tk.eq_def<|u7 @Lw<|u7 @GR<|u7 @GS<|u7 @Tm<|u7 @Tn<|u7 @Lx<|u7 @xJ<|u7 @Pp<|u7 @Ly<|u7 @Pq<|u7 @D7<|u7 @Lz<|u7 @yW<|u7 @yX<|u7 @To<|u7 @Pr<|u7 @BJ<|u7 @yY<|u7 @Tp<|u7 @Ps<|u7 @BK<|u7 @Pt<|u7 @LA<|u7 @LB<|u7 @W2<|u7 @nw.eq_def<|u7 @Ec.eq_1<|u7 @aJ.eq_1<|u7 @aJ.eq_2<|u7 @putCells.eq_1<|u7 @rC.eq_def<|u7 @oz.eq_def<|u7 @bY.eq_def<|u7 @renO.eq_1<|u7 @renTV.eq_def<|u7 @pj.eq_def<|u7 @xY.eq_1<|u7 @xY.eq_2<|u7 @tD.eq_def<|u7 @At<|u7 @P4<|u7 @L5<|u7 @true_and<|u7 @Cn.eq_def<|u7 @Mb<|u7 @Mc<|u7 @Md<|u7 @Me<|u7 @Mf<|u7 @Mg<|u7 @Mh<|u7 @Mi<|u7 @Ui<|u7 @QK<|u7 @Mj<|u7 @QL<|u7 @QM<|u7 @QN<|u7 @QO<|u7 @Uj<|u7 @QP<|u7 @vL<|u7 @QQ<|u7 @Uk<|u7 @si<|u7 @sj<|u7 @QR<|u7 @QS<|u7 @QT<|u7 @QU<|u7 @QV<|u7 @QW<|u7 @sk<|u7 @QX<|u7 @QY<|u7 @XN<|u7 @XO<|u7 @Ul<|u7 @Um<|u7 @Un<|u7 @Uo<|u7 @Up<|u7 @EO<|u7 @EP<|u7 @EQ<|u7 @ER<|u7 @ES<|u7 @ET<|u7 @EU<|u7 @EV<|u7 @EW<|u7 @EX<|u7 @EY<|u7 @EZ<|u7 @E3<|u7 @E4<|u7 @Ho<|u7 @Hp<|u7 @Hq<|u7 @ni<|u7 @nj<|u7 @Hr<|u7 @Hs<|u7 @Ht<|u7 @Hu<|u7 @Hv<|u7 @Mk<|u7 @Ml<|u7 @Uq<|u7 @Ur<|u7 @Us<|u7 @Mm<|u7 @Mn<|u7 @Mo<|u7 @Mp<|u7 @Mq<|u7 @Mr<|u7 @Ms<|u7 @sn<|u7 @QZ<|u7 @Q2<|u7 @Hw<|u7 @Hx<|u7 @Hy<|u7 @Hz<|u7 @nk<|u7 @HJ<|u7 @HU<|u7 @HW<|u7 @H4<|u7 @Q3<|u7 @Q4<|u7 @Q5<|u7 @Q6<|u7 @Q7<|u7 @Q8<|u7 @Q9<|u7 @Ra<|u7 @XP<|u7 @Ut<|u7 @Rb<|u7 @Uu<|u7 @Uv<|u7 @Uw<|u7 @Ux<|u7 @XQ<|u7 @Uy<|u7 @Co<|u7 @Uz<|u7 @XR<|u7 @vM<|u7 @vN<|u7 @UA<|u7 @UB<|u7 @UC<|u7 @UD<|u7 @UE<|u7 @UF<|u7 @H5<|u7 @H6<|u7 @H7<|u7 @H8<|u7 @H9<|u7 @Ia<|u7 @Ib<|u7 @Ic<|u7 @Id<|u7 @Rc<|u7 @Ie<|u7 @If<|u7 @Mt<|u7 @Mu<|u7 @Mv<|u7 @Re<|u7 @Mw<|u7 @Rg<|u7 @Mx<|u7 @pi<|u7 @My<|u7 @Mz<|u7 @MA<|u7 @MB<|u7 @MC<|u7 @vO.eq_def<|u7 @aw.eq_1<|u7 @Zx.eq_def<|u7 @j4.eq_1<|u7 @j16.eq_1<|u7 @rN.eq_1<|True.intro
def kx:=u7 @fR.eq_1<|u7 @fZ.eq_1<|u7 @cZ.eq_1<|u7 @tZ.eq_1<|u7 @cK.eq_1<|u7 @dF.eq_1<|u7 @dn.eq_1<|u7 @kE.eq_1<|u7 @y6.eq_1<|u7 @Cf.eq_1<|u7 @WC.eq_1<|u7 @slT.eq_1<|u7 @tIt.eq_1<|u7 @tR.eq_1<|u7 @csT.eq_1<|True.intro
section
variable {P:Program} {s s':AS} {y:Code} {id pk:Nat} {ops:Array Oper} {α:Prop}
theorem bz (h: ∀K:AS->Prop,K s'->aT P [] [] (aJ ops ops.toList 0) (some s) K:=by intro K k;simp only[kd,Nat.reduceAdd,Nat.reduceEqDiff,Nat.reduceBEq,Nat.reduceLeDiff,Int.reduceToNat,Nat.reduceMul,reduceCtorEq,Int.reduceLE,kx];exact k) (k:bo P y b s'):bo P (.seq (.region id ops false) y) b s:=ax fun K f=>h K (f s' k)
theorem aK (x:α) (h:α-> ∀K:AS->Prop,K s'->aT P [] [] (aJ ops ops.toList 0) (some s) K:=by intro x K k;simp(disch:=omega) only[kd,Nat.reduceAdd,Nat.reduceEqDiff,Nat.reduceBEq,Nat.reduceLeDiff,Int.reduceToNat,Nat.reduceMul,reduceCtorEq,Int.reduceLE,kx,aR,co,x];exact k) (k:bo P y b s'):bo P (.seq (.region id ops false) y) b s:=ax fun K f=>h x K (f s' k)
theorem aA (h: ∀K:AS->Prop,K s'->aT P [] [] (aJ ops ops.toList 0) (some s) K:=by intro K k;simp(disch:=omega) only[kd,Nat.reduceAdd,Nat.reduceEqDiff,Nat.reduceBEq,Nat.reduceLeDiff,Int.reduceToNat,Nat.reduceMul,reduceCtorEq,Int.reduceLE,kx,aR,co,List.replicate];exact k) (k:bo P y b s'):bo P (.seq (.region id ops false) y) b s:=ax fun K f=>h K (f s' k)
theorem fL (x:α) (h:α-> ∀K:AS->Prop,K s'->aT P [] [] (aJ ops ops.toList 0) (some s) K:=by intro x K k;simp only[kd,Nat.reduceAdd,Nat.reduceEqDiff,Nat.reduceBEq,Nat.reduceLeDiff,Int.reduceToNat,Nat.reduceMul,reduceCtorEq,Int.reduceLE,kx,x];exact k) (k:bo P y b s'):bo P (.seq (.region id ops false) y) b s:=ax fun K f=>h x K (f s' k)
theorem pC (x:α) (h:α-> ∀K:AS->Prop,K s'->aT P [] [] (aJ ops ops.toList 0) (some s) K:=by intro x K k;simp(disch:=omega) only[kd,Nat.reduceAdd,Nat.reduceEqDiff,Nat.reduceBEq,Nat.reduceLeDiff,Int.reduceToNat,Nat.reduceMul,reduceCtorEq,Int.reduceLE,kx,aR,co,List.replicate,x];exact k) (k:bo P y b s'):bo P (.seq (.region id ops false) y) b s:=ax fun K f=>h x K (f s' k)
theorem ar (h: ∀K:AS->Prop,K s'->aT P [] [] (aJ ops ops.toList 0) (some s) K:=by intro K k;simp(disch:=omega) only[kd,Nat.reduceAdd,Nat.reduceEqDiff,Nat.reduceBEq,Nat.reduceLeDiff,Int.reduceToNat,Nat.reduceMul,reduceCtorEq,Int.reduceLE,kx,aR,co];exact k) (k:bo P y b s'):bo P (.seq (.region id ops false) y) b s:=ax fun K f=>h K (f s' k)
theorem Z3 (h: ∀K:AS->Prop,K s'->aT prog [] [] (aJ ops ops.toList 0) (some s) K:=by intro K k;simp(disch:=omega) only[kd,Nat.reduceAdd,Nat.reduceEqDiff,Nat.reduceBEq,Nat.reduceLeDiff,Int.reduceToNat,Nat.reduceMul,reduceCtorEq,Int.reduceLE,kx,aR,co];exact k) (c:bX [] ops=true:=by kernel_rfl) (k:bo prog y b s'):bo prog (.seq (.region id ops true) y) b s:=kp cf c fun K f=>h K (f s' k)
theorem gW (x:α) (h:α-> ∀K:AS->Prop,K s'->aT prog [] [] (aJ ops ops.toList 0) (some s) K:=by intro x K k;simp(disch:=omega) only[kd,Nat.reduceAdd,Nat.reduceEqDiff,Nat.reduceBEq,Nat.reduceLeDiff,Int.reduceToNat,Nat.reduceMul,reduceCtorEq,Int.reduceLE,kx,aR,co,x];exact k) (c:bX [] ops=true:=by kernel_rfl) (k:bo prog y b s'):bo prog (.seq (.region id ops true) y) b s:=kp cf c fun K f=>h x K (f s' k)
theorem bM (c:List (ao P)) (h: ∀K:AS->Prop,K s'->aT P (c.map ao.a) [] (aJ ops ops.toList 0) (some s) K:=by intro K k;simp only[kd,Nat.reduceAdd,Nat.reduceEqDiff,Nat.reduceBEq,Nat.reduceLeDiff,Int.reduceToNat,Nat.reduceMul,reduceCtorEq,Int.reduceLE,kx];exact k) (k:bo P y b s'):bo P (.seq (.region id ops false) y) b s:=bC c [] fun K f=>h K (f s' k)
theorem bK (c:List (ao P)) (h: ∀K:AS->Prop,K s'->aT P (c.map ao.a) [] (aJ ops ops.toList 0) (some s) K:=by intro K k;simp(disch:=omega) only[kd,Nat.reduceAdd,Nat.reduceEqDiff,Nat.reduceBEq,Nat.reduceLeDiff,Int.reduceToNat,Nat.reduceMul,reduceCtorEq,Int.reduceLE,kx,aR,co];exact k) (k:bo P y b s'):bo P (.seq (.region id ops false) y) b s:=bC c [] fun K f=>h K (f s' k)
theorem fj (c:List (ao P)) (x:α) (h:α-> ∀K:AS->Prop,K s'->aT P (c.map ao.a) [] (aJ ops ops.toList 0) (some s) K:=by intro x K k;simp only[kd,Nat.reduceAdd,Nat.reduceEqDiff,Nat.reduceBEq,Nat.reduceLeDiff,Int.reduceToNat,Nat.reduceMul,reduceCtorEq,Int.reduceLE,kx,x];exact k) (k:bo P y b s'):bo P (.seq (.region id ops false) y) b s:=bC c [] fun K f=>h x K (f s' k)
theorem cn (c:List (ao P)) (x:α) (h:α-> ∀K:AS->Prop,K s'->aT P (c.map ao.a) [] (aJ ops ops.toList 0) (some s) K:=by intro x K k;simp(disch:=omega) only[kd,Nat.reduceAdd,Nat.reduceEqDiff,Nat.reduceBEq,Nat.reduceLeDiff,Int.reduceToNat,Nat.reduceMul,reduceCtorEq,Int.reduceLE,kx,aR,co,x];exact k) (k:bo P y b s'):bo P (.seq (.region id ops false) y) b s:=bC c [] fun K f=>h x K (f s' k)
theorem cQ (c:List (ao prog)) (h: ∀K:AS->Prop,K s'->aT prog (c.map ao.a) [] (aJ ops ops.toList 0) (some s) K:=by intro K k;simp(disch:=omega) only[kd,Nat.reduceAdd,Nat.reduceEqDiff,Nat.reduceBEq,Nat.reduceLeDiff,Int.reduceToNat,Nat.reduceMul,reduceCtorEq,Int.reduceLE,kx,aR,co];exact k) (e:bX [] ops=true:=by kernel_rfl) (k:bo prog y b s'):bo prog (.seq (.region id ops true) y) b s:=sM cf c [] e fun K f=>h K (f s' k)
theorem gh (c:List (ao prog)) (x:α) (h:α-> ∀K:AS->Prop,K s'->aT prog (c.map ao.a) [] (aJ ops ops.toList 0) (some s) K:=by intro x K k;simp(disch:=omega) only[kd,Nat.reduceAdd,Nat.reduceEqDiff,Nat.reduceBEq,Nat.reduceLeDiff,Int.reduceToNat,Nat.reduceMul,reduceCtorEq,Int.reduceLE,kx,aR,co,x];exact k) (e:bX [] ops=true:=by kernel_rfl) (k:bo prog y b s'):bo prog (.seq (.region id ops true) y) b s:=sM cf c [] e fun K f=>h x K (f s' k)
theorem ZJ (h: ∀K:AS->Prop,K s'->aT P [] [] (aJ ops ops.toList 0) (some s) K:=by intro K k;simp only[kd,Nat.reduceAdd,Nat.reduceEqDiff,Nat.reduceBEq,Nat.reduceLeDiff,Int.reduceToNat,Nat.reduceMul,reduceCtorEq,Int.reduceLE,kx];exact k) (k:b .normal s'):bo P (.region id ops false) b s:=lW fun K f=>h K (f s' k)
theorem dZ (x:α) (h:α-> ∀K:AS->Prop,K s'->aT P [] [] (aJ ops ops.toList 0) (some s) K:=by intro x K k;simp(disch:=omega) only[kd,Nat.reduceAdd,Nat.reduceEqDiff,Nat.reduceBEq,Nat.reduceLeDiff,Int.reduceToNat,Nat.reduceMul,reduceCtorEq,Int.reduceLE,kx,aR,co,x];exact k) (k:b .normal s'):bo P (.region id ops false) b s:=lW fun K f=>h x K (f s' k)
theorem UR (h: ∀K:AS->Prop,K s'->aT P [] [] (aJ ops ops.toList 0) (some s) K:=by intro K k;simp(disch:=omega) only[kd,Nat.reduceAdd,Nat.reduceEqDiff,Nat.reduceBEq,Nat.reduceLeDiff,Int.reduceToNat,Nat.reduceMul,reduceCtorEq,Int.reduceLE,kx,aR,co,List.replicate];exact k) (k:b .normal s'):bo P (.region id ops false) b s:=lW fun K f=>h K (f s' k)
theorem nA (x:α) (h:α-> ∀K:AS->Prop,K s'->aT P [] [] (aJ ops ops.toList 0) (some s) K:=by intro x K k;simp only[kd,Nat.reduceAdd,Nat.reduceEqDiff,Nat.reduceBEq,Nat.reduceLeDiff,Int.reduceToNat,Nat.reduceMul,reduceCtorEq,Int.reduceLE,kx,x];exact k) (k:b .normal s'):bo P (.region id ops false) b s:=lW fun K f=>h x K (f s' k)
theorem bL (h: ∀K:AS->Prop,K s'->aT P [] [] (aJ ops ops.toList 0) (some s) K:=by intro K k;simp(disch:=omega) only[kd,Nat.reduceAdd,Nat.reduceEqDiff,Nat.reduceBEq,Nat.reduceLeDiff,Int.reduceToNat,Nat.reduceMul,reduceCtorEq,Int.reduceLE,kx,aR,co];exact k) (k:b .normal s'):bo P (.region id ops false) b s:=lW fun K f=>h K (f s' k)
theorem sX (x:α) (h:α-> ∀K:AS->Prop,K s'->aT prog [] [] (aJ ops ops.toList 0) (some s) K:=by intro x K k;simp(disch:=omega) only[kd,Nat.reduceAdd,Nat.reduceEqDiff,Nat.reduceBEq,Nat.reduceLeDiff,Int.reduceToNat,Nat.reduceMul,reduceCtorEq,Int.reduceLE,kx,aR,co,x];exact k) (c:bX [] ops=true:=by kernel_rfl) (k:b .normal s'):bo prog (.region id ops true) b s:=Fp cf c fun K f=>h x K (f s' k)
theorem Yw (c:List (ao P)) (h: ∀K:AS->Prop,K s'->aT P (c.map ao.a) [] (aJ ops ops.toList 0) (some s) K:=by intro K k;simp only[kd,Nat.reduceAdd,Nat.reduceEqDiff,Nat.reduceBEq,Nat.reduceLeDiff,Int.reduceToNat,Nat.reduceMul,reduceCtorEq,Int.reduceLE,kx];exact k) (k:b .normal s'):bo P (.region id ops false) b s:=nL c [] fun K f=>h K (f s' k)
theorem Yx (c:List (ao P)) (h: ∀K:AS->Prop,K s'->aT P (c.map ao.a) [] (aJ ops ops.toList 0) (some s) K:=by intro K k;simp(disch:=omega) only[kd,Nat.reduceAdd,Nat.reduceEqDiff,Nat.reduceBEq,Nat.reduceLeDiff,Int.reduceToNat,Nat.reduceMul,reduceCtorEq,Int.reduceLE,kx,aR,co];exact k) (k:b .normal s'):bo P (.region id ops false) b s:=nL c [] fun K f=>h K (f s' k)
theorem wv (c:List (ao P)) (x:α) (h:α-> ∀K:AS->Prop,K s'->aT P (c.map ao.a) [] (aJ ops ops.toList 0) (some s) K:=by intro x K k;simp(disch:=omega) only[kd,Nat.reduceAdd,Nat.reduceEqDiff,Nat.reduceBEq,Nat.reduceLeDiff,Int.reduceToNat,Nat.reduceMul,reduceCtorEq,Int.reduceLE,kx,aR,co,x];exact k) (k:b .normal s'):bo P (.region id ops false) b s:=nL c [] fun K f=>h x K (f s' k)
theorem VT (c:List (ao prog)) (h: ∀K:AS->Prop,K s'->aT prog (c.map ao.a) [] (aJ ops ops.toList 0) (some s) K:=by intro K k;simp(disch:=omega) only[kd,Nat.reduceAdd,Nat.reduceEqDiff,Nat.reduceBEq,Nat.reduceLeDiff,Int.reduceToNat,Nat.reduceMul,reduceCtorEq,Int.reduceLE,kx,aR,co];exact k) (e:bX [] ops=true:=by kernel_rfl) (k:b .normal s'):bo prog (.region id ops true) b s:=sK cf c [] e fun K f=>h K (f s' k)
theorem gf (c:List (ao prog)) (x:α) (h:α-> ∀K:AS->Prop,K s'->aT prog (c.map ao.a) [] (aJ ops ops.toList 0) (some s) K:=by intro x K k;simp(disch:=omega) only[kd,Nat.reduceAdd,Nat.reduceEqDiff,Nat.reduceBEq,Nat.reduceLeDiff,Int.reduceToNat,Nat.reduceMul,reduceCtorEq,Int.reduceLE,kx,aR,co,x];exact k) (e:bX [] ops=true:=by kernel_rfl) (k:b .normal s'):bo prog (.region id ops true) b s:=sK cf c [] e fun K f=>h x K (f s' k)
theorem ZK (e: ∀K:AS->Prop,K s'->aT P [] [] (aJ ops ops.toList 0) (some s) K:=by intro K k;simp(disch:=omega) only[kd,Nat.reduceAdd,Nat.reduceEqDiff,Nat.reduceBEq,Nat.reduceLeDiff,Int.reduceToNat,Nat.reduceMul,reduceCtorEq,Int.reduceLE,kx,aR,co];exact k) (k:nM P n h y c s' g):nM P n h (.seq (.region id ops false) y) c s g:=zi fun K f=>e K (f s' k)
theorem Yy (e: ∀K:AS->Prop,K s'->aT P [] [] (aJ ops ops.toList 0) (some s) K:=by intro K k;simp(disch:=omega) only[kd,Nat.reduceAdd,Nat.reduceEqDiff,Nat.reduceBEq,Nat.reduceLeDiff,Int.reduceToNat,Nat.reduceMul,reduceCtorEq,Int.reduceLE,kx,aR,co,List.replicate];exact k) (k:nM P n h y c s' g):nM P n h (.seq (.region id ops false) y) c s g:=zi fun K f=>e K (f s' k)
theorem FI (x:α) (e:α-> ∀K:AS->Prop,K s'->aT P [] [] (aJ ops ops.toList 0) (some s) K:=by intro x K k;simp(disch:=omega) only[kd,Nat.reduceAdd,Nat.reduceEqDiff,Nat.reduceBEq,Nat.reduceLeDiff,Int.reduceToNat,Nat.reduceMul,reduceCtorEq,Int.reduceLE,kx,aR,co,List.replicate,x];exact k) (k:dW P n h y c s' g):dW P n h (.seq (.region id ops false) y) c s g:=oL fun K f=>e x K (f s' k)
theorem db (e: ∀K:AS->Prop,K s'->aT P [] [] (aJ ops ops.toList 0) (some s) K:=by intro K k;simp(disch:=omega) only[kd,Nat.reduceAdd,Nat.reduceEqDiff,Nat.reduceBEq,Nat.reduceLeDiff,Int.reduceToNat,Nat.reduceMul,reduceCtorEq,Int.reduceLE,kx,aR,co];exact k) (k:dW P n h y c s' g):dW P n h (.seq (.region id ops false) y) c s g:=oL fun K f=>e K (f s' k)
theorem US (e: ∀K:AS->Prop,K s'->aT P [] [] (aJ ops ops.toList 0) (some s) K:=by intro K k;simp(disch:=omega) only[kd,Nat.reduceAdd,Nat.reduceEqDiff,Nat.reduceBEq,Nat.reduceLeDiff,Int.reduceToNat,Nat.reduceMul,reduceCtorEq,Int.reduceLE,kx,aR,co,List.replicate];exact k) (k:dW P n h y c s' g):dW P n h (.seq (.region id ops false) y) c s g:=oL fun K f=>e K (f s' k)
theorem kP (x:α) (e:α-> ∀K:AS->Prop,K s'->aT P [] [] (aJ ops ops.toList 0) (some s) K:=by intro x K k;simp(disch:=omega) only[kd,Nat.reduceAdd,Nat.reduceEqDiff,Nat.reduceBEq,Nat.reduceLeDiff,Int.reduceToNat,Nat.reduceMul,reduceCtorEq,Int.reduceLE,kx,aR,co,x];exact k) (k:dW P n h y c s' g):dW P n h (.seq (.region id ops false) y) c s g:=oL fun K f=>e x K (f s' k)
theorem UT (j:List (ao P)) (e: ∀K:AS->Prop,K s'->aT P (j.map ao.a) [] (aJ ops ops.toList 0) (some s) K:=by intro K k;simp(disch:=omega) only[kd,Nat.reduceAdd,Nat.reduceEqDiff,Nat.reduceBEq,Nat.reduceLeDiff,Int.reduceToNat,Nat.reduceMul,reduceCtorEq,Int.reduceLE,kx,aR,co];exact k) (k:dW P n h y c s' g):dW P n h (.seq (.region id ops false) y) c s g:=wt j [] fun K f=>e K (f s' k)
theorem Nm (j:List (ao P)) (x:α) (e:α-> ∀K:AS->Prop,K s'->aT P (j.map ao.a) [] (aJ ops ops.toList 0) (some s) K:=by intro x K k;simp(disch:=omega) only[kd,Nat.reduceAdd,Nat.reduceEqDiff,Nat.reduceBEq,Nat.reduceLeDiff,Int.reduceToNat,Nat.reduceMul,reduceCtorEq,Int.reduceLE,kx,aR,co,x];exact k) (k:dW P n h y c s' g):dW P n h (.seq (.region id ops false) y) c s g:=wt j [] fun K f=>e x K (f s' k)
theorem uM (e: ∀K:AS->Prop,K s'->aT P [] [] (aJ ops ops.toList 0) (some s) K:=by intro K k;simp(disch:=omega) only[kd,Nat.reduceAdd,Nat.reduceEqDiff,Nat.reduceBEq,Nat.reduceLeDiff,Int.reduceToNat,Nat.reduceMul,reduceCtorEq,Int.reduceLE,kx,aR,co];exact k) (k:c .normal s' g):dW P n h (.region id ops false) c s g:=Kv fun K f=>e K (f s' k)
theorem VV (x:α) (e:α-> ∀K:AS->Prop,K s'->aT prog [] [] (aJ ops ops.toList 0) (some s) K:=by intro x K k;simp(disch:=omega) only[kd,Nat.reduceAdd,Nat.reduceEqDiff,Nat.reduceBEq,Nat.reduceLeDiff,Int.reduceToNat,Nat.reduceMul,reduceCtorEq,Int.reduceLE,kx,aR,co,x];exact k) (j:bX [] ops=true:=by kernel_rfl) (k:c .normal s' g):dW prog n h (.region id ops true) c s g:=FE cf j fun K f=>e x K (f s' k)
theorem eF (h: ∀K:AS->Prop,K s'->aT P [] [] (aJ ops ops.toList 0) (some s) K:=by intro K k;simp(disch:=omega) only[kd,Nat.reduceAdd,Nat.reduceEqDiff,Nat.reduceBEq,Nat.reduceLeDiff,Int.reduceToNat,Nat.reduceMul,reduceCtorEq,Int.reduceLE,kx,aR,co];exact k) (c:eR pk ops=true:=by kernel_rfl) (k:eY P pk y b s'):eY P pk (.seq (.region id ops false) y) b s:=sN c fun K f=>h K (f s' k)
theorem Nk (h: ∀K:AS->Prop,K s'->aT P [] [] (aJ ops ops.toList 0) (some s) K:=by intro K k;simp(disch:=omega) only[kd,Nat.reduceAdd,Nat.reduceEqDiff,Nat.reduceBEq,Nat.reduceLeDiff,Int.reduceToNat,Nat.reduceMul,reduceCtorEq,Int.reduceLE,kx,aR,co,List.replicate];exact k) (c:eR pk ops=true:=by kernel_rfl) (k:eY P pk y b s'):eY P pk (.seq (.region id ops false) y) b s:=sN c fun K f=>h K (f s' k)
theorem dp (x:α) (h:α-> ∀K:AS->Prop,K s'->aT P [] [] (aJ ops ops.toList 0) (some s) K:=by intro x K k;simp(disch:=omega) only[kd,Nat.reduceAdd,Nat.reduceEqDiff,Nat.reduceBEq,Nat.reduceLeDiff,Int.reduceToNat,Nat.reduceMul,reduceCtorEq,Int.reduceLE,kx,aR,co,x];exact k) (c:eR pk ops=true:=by kernel_rfl) (k:eY P pk y b s'):eY P pk (.seq (.region id ops false) y) b s:=sN c fun K f=>h x K (f s' k)
theorem sY (x:α) (h:α-> ∀K:AS->Prop,K s'->aT prog [] [] (aJ ops ops.toList 0) (some s) K:=by intro x K k;simp(disch:=omega) only[kd,Nat.reduceAdd,Nat.reduceEqDiff,Nat.reduceBEq,Nat.reduceLeDiff,Int.reduceToNat,Nat.reduceMul,reduceCtorEq,Int.reduceLE,kx,aR,co,x];exact k) (c:bX [] ops=true:=by kernel_rfl) (e:eR pk ops=true:=by kernel_rfl) (k:eY prog pk y b s'):eY prog pk (.seq (.region id ops true) y) b s:=Fw cf c e fun K f=>h x K (f s' k)
theorem Yz (c:List (ao P)) (h: ∀K:AS->Prop,K s'->aT P (c.map ao.a) [] (aJ ops ops.toList 0) (some s) K:=by intro K k;simp(disch:=omega) only[kd,Nat.reduceAdd,Nat.reduceEqDiff,Nat.reduceBEq,Nat.reduceLeDiff,Int.reduceToNat,Nat.reduceMul,reduceCtorEq,Int.reduceLE,kx,aR,co];exact k) (e:eR pk ops=true:=by kernel_rfl) (k:eY P pk y b s'):eY P pk (.seq (.region id ops false) y) b s:=wn c [] e fun K f=>h K (f s' k)
theorem VU (c:List (ao P)) (x:α) (h:α-> ∀K:AS->Prop,K s'->aT P (c.map ao.a) [] (aJ ops ops.toList 0) (some s) K:=by intro x K k;simp(disch:=omega) only[kd,Nat.reduceAdd,Nat.reduceEqDiff,Nat.reduceBEq,Nat.reduceLeDiff,Int.reduceToNat,Nat.reduceMul,reduceCtorEq,Int.reduceLE,kx,aR,co,x];exact k) (e:eR pk ops=true:=by kernel_rfl) (k:eY P pk y b s'):eY P pk (.seq (.region id ops false) y) b s:=wn c [] e fun K f=>h x K (f s' k)
theorem R8 (c:List (ao prog)) (x:α) (h:α-> ∀K:AS->Prop,K s'->aT prog (c.map ao.a) [] (aJ ops ops.toList 0) (some s) K:=by intro x K k;simp(disch:=omega) only[kd,Nat.reduceAdd,Nat.reduceEqDiff,Nat.reduceBEq,Nat.reduceLeDiff,Int.reduceToNat,Nat.reduceMul,reduceCtorEq,Int.reduceLE,kx,aR,co,x];exact k) (e:bX [] ops=true:=by kernel_rfl) (g:eR pk ops=true:=by kernel_rfl) (k:eY prog pk y b s'):eY prog pk (.seq (.region id ops true) y) b s:=zk cf c [] e g fun K f=>h x K (f s' k)
theorem Kw (h: ∀K:AS->Prop,K s'->aT P [] [] (aJ ops ops.toList 0) (some s) K:=by intro K k;simp(disch:=omega) only[kd,Nat.reduceAdd,Nat.reduceEqDiff,Nat.reduceBEq,Nat.reduceLeDiff,Int.reduceToNat,Nat.reduceMul,reduceCtorEq,Int.reduceLE,kx,aR,co];exact k) (c:eR pk ops=true:=by kernel_rfl) (k:b .normal s'):eY P pk (.region id ops false) b s:=zj c fun K f=>h K (f s' k)
theorem tX (x:α) (h:α-> ∀K:AS->Prop,K s'->aT P [] [] (aJ ops ops.toList 0) (some s) K:=by intro x K k;simp(disch:=omega) only[kd,Nat.reduceAdd,Nat.reduceEqDiff,Nat.reduceBEq,Nat.reduceLeDiff,Int.reduceToNat,Nat.reduceMul,reduceCtorEq,Int.reduceLE,kx,aR,co,x];exact k) (c:eR pk ops=true:=by kernel_rfl) (k:b .normal s'):eY P pk (.region id ops false) b s:=zj c fun K f=>h x K (f s' k)
theorem gD {b:Type} {L:iw b} {g:b} {Q:Exit->AS->b->Prop} (h: ∀K:AS->Prop,K s'->aT P [] [] (aJ ops ops.toList 0) (some s) K:=by intro K k;simp(disch:=omega) only[kd,Nat.reduceAdd,Nat.reduceEqDiff,Nat.reduceBEq,Nat.reduceLeDiff,Int.reduceToNat,Nat.reduceMul,reduceCtorEq,Int.reduceLE,kx,aR,co];exact k) (c:du l ops=true:=by kernel_rfl) (k:eD P L l y Q s' g):eD P L l (.seq (.region id ops false) y) Q s g:=zo c fun K f=>h K (f s' k)
theorem d6 {b:Type} {L:iw b} {g:b} {Q:Exit->AS->b->Prop} (x:α) (h:α-> ∀K:AS->Prop,K s'->aT P [] [] (aJ ops ops.toList 0) (some s) K:=by intro x K k;simp(disch:=omega) only[kd,Nat.reduceAdd,Nat.reduceEqDiff,Nat.reduceBEq,Nat.reduceLeDiff,Int.reduceToNat,Nat.reduceMul,reduceCtorEq,Int.reduceLE,kx,aR,co,x];exact k) (c:du l ops=true:=by kernel_rfl) (k:eD P L l y Q s' g):eD P L l (.seq (.region id ops false) y) Q s g:=zo c fun K f=>h x K (f s' k)
theorem Nl {c:Type} {L:iw c} {g:c} {Q:Exit->AS->c->Prop} (b:List (ao P)) (h: ∀K:AS->Prop,K s'->aT P (b.map ao.a) [] (aJ ops ops.toList 0) (some s) K:=by intro K k;simp(disch:=omega) only[kd,Nat.reduceAdd,Nat.reduceEqDiff,Nat.reduceBEq,Nat.reduceLeDiff,Int.reduceToNat,Nat.reduceMul,reduceCtorEq,Int.reduceLE,kx,aR,co];exact k) (e:du l ops=true:=by kernel_rfl) (k:eD P L l y Q s' g):eD P L l (.seq (.region id ops false) y) Q s g:=nQ b [] e fun K f=>h K (f s' k)
theorem uL {b:Type} {L:iw b} {g:b} {Q:Exit->AS->b->Prop} (h: ∀K:AS->Prop,K s'->aT P [] [] (aJ ops ops.toList 0) (some s) K:=by intro K k;simp(disch:=omega) only[kd,Nat.reduceAdd,Nat.reduceEqDiff,Nat.reduceBEq,Nat.reduceLeDiff,Int.reduceToNat,Nat.reduceMul,reduceCtorEq,Int.reduceLE,kx,aR,co];exact k) (c:du l ops=true:=by kernel_rfl) (k:Q .normal s' g):eD P L l (.region id ops false) Q s g:=zm c fun K f=>h K (f s' k)
theorem qA {b:Type} {L:iw b} {g:b} {Q:Exit->AS->b->Prop} (x:α) (h:α-> ∀K:AS->Prop,K s'->aT P [] [] (aJ ops ops.toList 0) (some s) K:=by intro x K k;simp(disch:=omega) only[kd,Nat.reduceAdd,Nat.reduceEqDiff,Nat.reduceBEq,Nat.reduceLeDiff,Int.reduceToNat,Nat.reduceMul,reduceCtorEq,Int.reduceLE,kx,aR,co,x];exact k) (c:du l ops=true:=by kernel_rfl) (k:Q .normal s' g):eD P L l (.region id ops false) Q s g:=zm c fun K f=>h x K (f s' k)
theorem aH {p q:Prop} (a:p) (b:q):p/\q:=⟨a,b⟩
theorem aG {r:TV} (x:α) (e:b .ret s=((Exit.ret= .normal\/Exit.ret= .ret)/\ ∃s',bD s s'/\np P t ⟨[],r⟩ s'):=by rfl) (h:α->pj P s t.results.toList=some r:=by intro x;simp(disch:=omega) only[kd,Nat.reduceAdd,Nat.reduceEqDiff,Nat.reduceBEq,Nat.reduceLeDiff,Int.reduceToNat,Nat.reduceMul,reduceCtorEq,Int.reduceLE,kx,aR,co,x]) (c:s.H 1000=[]:=by rfl) (f:noRefTV r=true:=by rfl):bo P .ret b s:=aW (e.mpr ⟨.inr rfl,cd c (h x) f⟩)
theorem ay {args:List TV} {res:CallRes} (j:P.funcs[r]?=some t) (g:t.body=some e) (l:t.ntmps=n) (h:bo P e (fun b s=>(b= .normal\/b= .ret)/\ ∃s',bD s s'/\np P t res s') ⟨args++ae (n-args.length) .undef,fun _=>[]⟩) (o:callable P r=true:=by kernel_rfl):CallC P r args res:=fk j g o (by rw[l];exact h)
theorem Z4 (g:s.ev j=some (.raw (.bool false))) (h:bo P f b s):bo P (.cond j e .skip) (iP (bo P f b) b) s:=aq g (ak h)
theorem Z5 (g:s.ev j=some (.raw (.bool true))) (h:bo P f b s):bo P (.cond j .skip e) (iP (bo P f b) b) s:=aC g (ak h)
theorem Z6 (m:s.ev j=some (.raw (.bool false))) (l:nM P n h f c s g):nM P n h (.cond j e .skip) (pw (nM P n h f c) c) s g:=VM m (CP l)
theorem Z7 (m:s.ev j=some (.raw (.bool true))) (l:nM P n h f c s g):nM P n h (.cond j .skip e) (pw (nM P n h f c) c) s g:=VN m (CP l)
theorem aac (m:s.ev j=some (.raw (.bool false))) (l:dW P n h f c s g):dW P n h (.cond j e .skip) (pw (dW P n h f c) c) s g:=ck m (jr l)
theorem aad (m:s.ev j=some (.raw (.bool true))) (l:dW P n h f c s g):dW P n h (.cond j .skip e) (pw (dW P n h f c) c) s g:=iC m (jr l)
theorem Z8 {k:Nat} (g:s.ev j=some (.raw (.bool false))) (h:eY P k f b s):eY P k (.cond j e .skip) (iP (eY P k f b) b) s:=iz g (dM h)
theorem Z9 {k:Nat} (g:s.ev j=some (.raw (.bool true))) (h:eY P k f b s):eY P k (.cond j .skip e) (iP (eY P k f b) b) s:=iA g (dM h)
theorem aaa {b:Type} {L:iw b} {g:b} {Q:Exit->AS->b->Prop} (m:s.ev j=some (.raw (.bool false))) (h:eD P L l f Q s g):eD P L l (.cond j e .skip) (se (eD P L l f Q) Q) s g:=gC m (dY h)
theorem aab {b:Type} {L:iw b} {g:b} {Q:Exit->AS->b->Prop} (m:s.ev j=some (.raw (.bool true))) (h:eD P L l f Q s g):eD P L l (.cond j .skip e) (se (eD P L l f Q) Q) s g:=gV m (dY h)
end
end
theorem jg (l:List Nat) (s:l.length<=1073741824):CallC prog 72 [cK l] ⟨[],cK (cJ l)⟩:=by
 refine ay func72 rfl ntmps72 (aA (k:=bz (k:=?_)));refine Iu (G:={n:Nat//n<=l.length/\cJ l=cJ (l.take n)}) (fun n=>⟨(cK l::jk::.raw (.slice none 0 0)::.raw (.int .i64 n.1)::j16 (jk::jk::[])),Hm []⟩) (fun n=>n.1) ⟨l.length,aaq _,by simp⟩ ?_ ?_
 ·refine aj trivial ?_;simp[wk]
 rintro⟨n,t,r⟩;simp only;by_cases q:0<n
 ·obtain⟨a,o⟩:=getElem?_of_lt (l:=l) (k:=n-1) (by omega);have m:((n:Int)-1).toNat=n-1:=by omega
  refine ai (aK (aH m o) (k:=?_));have p:l.take n=l.take (n-1)++[a]:=by
   have:=acC (i:=n-1) (l:=l) (by omega);grind
  refine aZ rfl (fun g=>ak ?_) (fun g=>aY ?_)
  ·have j:a=0:=by grind
   refine am (bL (k:=?_));refine⟨⟨n-1,by omega,?_⟩,by simp only;omega,aj trivial ?_⟩
   ·simp_all[kJ]
   have e:((n-1:Nat):Int)=(n:Int)-1:=by omega
   simp[wk,e]
  have j:a≠0:=by grind
  have b:cJ l=l.take n:=by grind [tO]
  show bo _ _ _ _;have c:(l.take n).length=n:=by simp;omega
  refine aK (aH @aaW (aH (kD pR) (aH c (xu pR)))) (k:=?_);refine aW ⟨.inr rfl,fF 21 (bG rfl) ?_ rfl⟩;simp(disch:=omega) only[kd,results72,b];grind
 have h:n=0:=by omega
 subst h;have b:cJ l=[]:=by grind [cJ]
 refine ai (ar (k:=aZ rfl (fun g=>by cases g) (fun g=>aY (aK (aH @aaW (kD pR)) (k:=?_)))));refine aW ⟨.inr rfl,fF 21 (bG (f:=fU) (l:=[]) rfl) ?_ rfl⟩;simp(disch:=omega) only[kd,results72,b];simp[ls]
theorem ce:au 0=[]:=by rw[au];simp
theorem th (h:n≠0):au n=n%4294967296::au (n/4294967296):=by grind [au]
theorem az (n:Nat):natV (au n)=n:=by
 induction n using Nat.strongRecOn with
 |_ n b=>
  grind [ce,th,natV]
theorem aE (n:Nat):Lmb (au n):=by
 induction n using Nat.strongRecOn with
 |_ n c=>
  by_cases h:n=0
  ·subst h;rw[ce];intro a b;simp at b
  rw[th h];intro a b;rcases aaV.1 b with rfl|b
  ·omega
  exact c _ (La h) a b
theorem b7 (n:Nat):uW (au n):=by
 induction n using Nat.strongRecOn with
 |_ n b=>
  grind [ce,uW,th]
theorem Oe (b:Lmb l) (c:uW l):l=au (natV l):=
 Si b (aE _) c (b7 _) (az _).symm
theorem dA (b:Lmb l):cJ l=au (natV l):=by
 grind [Oe,QJ,QH,Lo]
theorem iQ (n:Nat):cJ (au n)=au n:=uI (b7 n)
theorem Bw:au n=[]↔n=0:=⟨fun h=>by rw[<- az n,h];rfl,fun h=>by rw[h,ce]⟩
theorem kh {n k:Nat} (h:n<4294967296^k):(au n).length<=k:=FV (b7 n) (by grind [az])
theorem fW {n:Nat}:(au n).length=0↔n=0:=by simp_all[Bw]
def Sz (z:Int) (k:Nat):Prop:=z.natAbs<4294967296^k
theorem Sz.len {k:Nat} (h:Sz x k):(au x.natAbs).length<=k:=kh h
theorem Sz.mono {k l:Nat} (h:Sz x k) (b:k<=l):Sz x l:=aas h (aaE (by omega) b)
theorem xc (z:Int):(fZ z).length=2:=rfl
theorem rQ (neg:Bool) (n:Nat):(gI neg n).natAbs=n:=by grind [gI]
theorem JO (neg:Bool) (n:Nat):decide (gI neg n<0)=(neg&&decide (0<n)):=by
 grind [gI]
theorem jS (neg:Bool) (l:List Nat) (h:Lmb l) (b:l.length<=1073741824):CallC prog 105 [.raw (.bool neg),cK l] ⟨[],tZ (gI neg (natV l))⟩:=by
 have e:=jg l b;rw[dA h]at e;have c:(au (natV l)).length<=1073741824:=by rw[<- dA h];exact aaj (QI l) b
 refine ay func105 rfl ntmps105 (aA (k:=bM [⟨1,_,_,_,e⟩] (k:=?_)));cases neg with
 |false=>
  refine ar (k:=?_);refine aW ⟨.inr rfl,cd rfl ?_ rfl⟩;simp(disch:=omega) only[kd,results105,aa,tZ];rfl
 |true=>
  refine ar (k:=?_);refine aW ⟨.inr rfl,cd rfl ?_ rfl⟩;simp(disch:=omega) only[kd,results105,aa,tZ];have:(0<(au (natV l)).length)↔0<natV l:=by
   grind [fW]
  grind [rQ,JO]
abbrev Bg (z:Int):Prop:=Sz z 1073741824
theorem Bg.len (h:Bg x):(au x.natAbs).length<=1073741824:=kh h
theorem O9 (z:Int):gI (!decide (z<0)) z.natAbs= -z:=by grind [gI]
theorem BD (z:Int):gI (decide (z<0)) z.natAbs=z:=by grind [gI]
theorem Jv (z:Int) (h:Bg z):CallC prog 79 [tZ z] ⟨[],tZ (-z)⟩:=by
 have b:=jS (!decide (z<0)) (au z.natAbs) (aE _) h.len;rw[az,O9]at b;refine ay func79 rfl ntmps79 (aA (k:=bK [⟨5,_,_,_,b⟩] (k:=aG @results79)))
theorem Nn (z:Int) (h:Bg z):CallC prog 158 [tZ z] ⟨[],tZ z.natAbs⟩:=by
 have b:=jS false (au z.natAbs) (aE _) h.len;rw[az,show gI false z.natAbs=z.natAbs from rfl]at b;refine ay func158 rfl ntmps158 (aA (k:=bK [⟨2,_,_,_,b⟩] (k:=aG @results158)))
theorem Pk (z:Int) (h:Bg z):CallC prog 52 [tZ z] ⟨[],tZ z⟩:=by
 have b:=jS (decide (z<0)) (au z.natAbs) (aE _) h.len;rw[az,BD]at b;refine ay func52 rfl ntmps52 (aA (k:=bK [⟨4,_,_,_,b⟩] (k:=aG @results52)))
theorem Cs (neg:Bool) (u:Nat) (g:u<18446744073709551616):CallC prog 128 [.raw (.bool neg),.raw (.int .u64 u)] ⟨[],tZ (gI neg u)⟩:=by
 have c:=jS neg [u%4294967296,u/4294967296] (by intro a f;grind) (by simp);rw[AG]at c;have e:IntKind.u32.wrap (u:Int)=((u%4294967296:Nat):Int):=by rfl
 have b:IntKind.u32.wrap ((u:Int).fdiv (2^(min (32:Int).toNat IntKind.u64.bits)))=((u/4294967296:Nat):Int):=by
  rw[ab9];show(Int.fdiv (u:Int) 4294967296)%4294967296=_;grind
 simp only[ah]at b;refine ay func128 rfl ntmps128 (aA (k:=cn [⟨7,_,_,_,c⟩] (aH @Jj (aH e b)) (k:=aG @results128)))
theorem fh (n:Int) (e: -9223372036854775808<=n) (f:n<=9223372036854775807):CallC prog 74 [.raw (.int .i64 n)] ⟨[],tZ n⟩:=by
 by_cases g:n<0
 ·have b:=Cs true n.natAbs (by omega);have c:IntKind.u64.wrap (0-IntKind.u64.wrap n)=((n.natAbs:Nat):Int):=by grind [IntKind.wrap_u64]
  rw[show gI true n.natAbs=n by grind [gI]]at b;refine ay func74 rfl ntmps74 (aA (k:=ai (ar (k:=aC rfl (cn [⟨3,_,_,_,b⟩] c (k:=aG @results74))))))
 have b:=Cs false n.natAbs (by omega);have c:IntKind.u64.wrap n=((n.natAbs:Nat):Int):=by rw[abb];omega
 rw[show gI false n.natAbs=n by grind [gI]]at b;refine ay func74 rfl ntmps74 (aA (k:=ai (ar (k:=aq rfl (ak (cn [⟨2,_,_,_,b⟩] c (k:=aG @results74)))))))
theorem lL (z:Int) (h:Bg z):CallC prog 75 [tZ z] ⟨[],.raw (.int .i64 (sg z))⟩:=by
 have b:=jg (au z.natAbs) h.len;rw[iQ]at b;have g:=fW (n:=z.natAbs);rcases Int.lt_trichotomy z 0 with c|c|c
 ·have e:sg z= -1:=by simp[sg,c]
  have f:(au z.natAbs).length≠0:=by omega
  rw[e];refine ay func75 rfl ntmps75 (aA (k:=ai (am (bK [⟨2,_,_,_,b⟩] (k:=aq rfl (bz (k:=aC rfl (bz (k:=aG @results75)))))))))
 ·subst c;rw[show sg 0=0 from rfl];rw[Int.natAbs_zero,ce]at b;rw[show tZ 0= .agg [.p (.raw (.bool false)),.p (.sl (ls fU []))]from by grind];refine ay func75 rfl ntmps75 (aA (k:=ai (am (bK [⟨2,_,_,_,b⟩] (k:=aC rfl (bz (k:=aG @results75)))))))
 have e:sg z=1:=by grind [sg]
 have f:(au z.natAbs).length≠0:=by omega
 rw[e];refine ay func75 rfl ntmps75 (aA (k:=ai (am (bK [⟨2,_,_,_,b⟩] (k:=aq rfl (bz (k:=aq rfl (ak (bz (k:=aG @results75))))))))))
theorem IN (l m:List Nat) (r:Lmb l) (s:Lmb m) (t:uW l) (u:uW m) (x:l.length<=1073741824) (y:m.length<=1073741824):
  CallC prog 157 [cK l,cK m] ⟨[],.raw (.int .i64 (gX (natV l) (natV m)))⟩:=by
 rcases abx l.length m.length with q|n|o
 ·rw[oN (jG r u q)];refine ay func157 rfl ntmps157 (aA (k:=ai (ar (k:=aC rfl (ai (ar (k:=aC rfl (bz (k:=aG @results157)))))))))
 ·refine ay func157 rfl ntmps157 (aA (k:=ai (ar (k:=aq rfl (ak (ai (ar (k:=?_))))))));refine aF (G:={k:Nat//k<=l.length/\l.drop k=m.drop k}) (fun k=>⟨(cK l::cK m::jk::jk::.raw (.int .i64 0)::.raw (.int .i64 ((k.1:Int)-1))::j16 (j16 (jk::jk::jk::[]))),Hm []⟩) (fun k=>k.1) ⟨l.length,aaq _,by rw[acY,n,acY]⟩ ?_ ?_
  ·refine aj trivial ?_;simp[wk]
  rintro⟨k,B,A⟩;simp only;by_cases z:0<k
  ·obtain⟨a,f⟩:=getElem?_of_lt (l:=l) (k:=k-1) (by omega);obtain⟨b,g⟩:=getElem?_of_lt (l:=m) (k:=k-1) (by omega);have j:((k:Int)-1).toNat=k-1:=by omega
   have e:l.drop (k-1+1)=m.drop (k-1+1):=by grind
   refine ai (ar (k:=aC rfl (ak (ai (am (gW (aH j (aH f g)) (k:=?_)))))));rcases abx a b with c|c|c
   ·rw[oN (mV r f g e c)];refine aZ rfl (fun _=>?_) (fun h=>by simp at h<;>omega);refine ai (gW (aH j (aH f g)) (k:=aC rfl (bz (k:=aG @results157))))
   ·subst c;refine aZ rfl (fun h=>by simp at h<;>omega) (fun _=>ak ?_);show bo _ _ _ _;refine bL (k:=?_);refine⟨⟨k-1,by omega,zI f g e⟩,by grind,aj trivial ?_⟩;have v:((k-1:Nat):Int)=(k:Int)-1:=by omega
    simp[wk,v]
   rw[vi (mV s g f e.symm c)];refine aZ rfl (fun _=>?_) (fun h=>by simp at h<;>omega);refine ai (gW (aH j (aH f g)) (k:=aq rfl (ak (bz (k:=aG @results157)))))
  have p:k=0:=by omega
  subst p;have w:l=m:=by grind
  rw[show gX (natV l) (natV m)=0 by grind [gX]];refine ai (ar (k:=aq rfl (aY (bz (k:=aG @results157)))))
 rw[vi (jG s t o)];refine ay func157 rfl ntmps157 (aA (k:=ai (ar (k:=aC rfl (ai (ar (k:=aq rfl (ak (bz (k:=aG @results157))))))))))
def nX (a b:Int):Int:=if a<b then -1 else if a=b then 0 else 1
theorem Ew (z:Int): -1<=sg z/\sg z<=1:=by grind [sg]
theorem F0 (a b:Nat): -1<=gX a b/\gX a b<=1:=by grind [gX]
theorem So {a:Int} (h:sg a≠sg x):nX a x=if sg a<sg x then -1 else 1:=by
 grind [sg,nX]
theorem Sm {a:Int} (h:sg a=sg x):nX a x=sg a*gX a.natAbs x.natAbs:=by
 grind [sg,nX,gX]
theorem y8 (a b:Int) (e:Bg a) (f:Bg b):CallC prog 106 [tZ a,tZ b] ⟨[],.raw (.int .i64 (nX a b))⟩:=by
 have g:=lL a e;have j:=lL b f;have t1:=jg (au a.natAbs) e.len;have t2:=jg (au b.natAbs) f.len;rw[iQ]at t1 t2;have l:=IN (au a.natAbs) (au b.natAbs) (aE _) (aE _) (b7 _) (b7 _) e.len f.len;rw[az,az]at l;have n:=Ew a;have o:=Ew b;have p:=F0 a.natAbs b.natAbs;have q: -1<=sg a*gX a.natAbs b.natAbs/\sg a*gX a.natAbs b.natAbs<=1:=by
  grind [sg]
 by_cases m:sg a=sg b
 ·rw[Sm m];refine ay func106 rfl ntmps106 (aA (k:=cQ [⟨1,_,_,_,g⟩,⟨3,_,_,_,j⟩] (k:=ai (ar (k:=aq rfl (ak (cQ [⟨3,_,_,_,t1⟩,⟨6,_,_,_,t2⟩,⟨7,_,_,_,l⟩] (k:=aG @results106))))))))
 rw[So m];refine ay func106 rfl ntmps106 (aA (k:=cQ [⟨1,_,_,_,g⟩,⟨3,_,_,_,j⟩] (k:=ai (ar (k:=aC rfl (ai (bz (k:=?_))))))));by_cases c:sg a<sg b
 ·rw[if_pos c];refine aZ rfl (fun _=>?_) (fun h=>by simp at h<;>omega);refine ar (k:=aG @results106)
 rw[if_neg c];refine aZ rfl (fun h=>by simp at h<;>omega) (fun _=>ak ?_);show bo _ _ _ _;refine ar (k:=aG @results106)
end Go.Proofs.YtalmoejhjceflaaGreat
