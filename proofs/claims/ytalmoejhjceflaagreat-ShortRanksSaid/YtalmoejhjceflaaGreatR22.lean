/-
  Part 23 of a proof (walks and plain facts).
-/
import Derived.Test.YtalmoejhjceflaaGreatR21
import Derived.Shelf.SlSortCmp.WholeK
import Derived.Ground.SlsfProg
import Derived.Test.YtalmoejhjceflaaGreatProg
import Derived.Deep.RegionHeld3
import Derived.Deep.RegionLaw
set_option linter.all false
set_option maxRecDepth 100000
set_option maxHeartbeats 64000000
namespace Go.Proofs.YtalmoejhjceflaaGreat
open Go.RowKit Go.Proofs.Tryz
variable {n m:Nat} {w:World} {b:List NItem}
end Go.Proofs.YtalmoejhjceflaaGreat
namespace Go.Proofs
open Go.Shelf
def Tryz.sortK_ren:Go.Shelf.Ren:=⟨fun|6=>198|15=>127|14=>229|28=>184|29=>185|20=>244|21=>245|22=>246|23=>247|24=>248|25=>249|26=>250|27=>251|46=>254|47=>216|48=>217|49=>255|50=>256|57=>257|n=>n,fun|22=>171|24=>177|25=>170|3=>3|39=>164|0=>0|53=>165|55=>116|4=>4|46=>213|45=>212|50=>51|5=>5|9=>9|66=>250|70=>254|76=>268|77=>269|n=>n,fun|n=>n⟩
theorem Tryz.sortK:Go.Proofs.SlLaysF0.n6 prog Tryz.sortK_ren:={
 mixed:=by kernel_rfl
 f6:=⟨f198.name,by decide,func198.trans (congrArg some (by kernel_rfl))⟩
 f14:=⟨f229.name,by decide,func229.trans (congrArg some (by kernel_rfl))⟩
 f15:=func127.trans (congrArg some (by kernel_rfl))
 f20:=⟨f244.name,by decide,func244.trans (congrArg some (by kernel_rfl))⟩
 f21:=⟨f245.name,by decide,func245.trans (congrArg some (by kernel_rfl))⟩
 f22:=⟨f246.name,by decide,func246.trans (congrArg some (by kernel_rfl))⟩
 f23:=⟨f247.name,by decide,func247.trans (congrArg some (by kernel_rfl))⟩
 f24:=⟨f248.name,by decide,func248.trans (congrArg some (by kernel_rfl))⟩
 f25:=⟨f249.name,by decide,func249.trans (congrArg some (by kernel_rfl))⟩
 f26:=⟨f250.name,by decide,func250.trans (congrArg some (by kernel_rfl))⟩
 f27:=⟨f251.name,by decide,func251.trans (congrArg some (by kernel_rfl))⟩
 f28:=func184.trans (congrArg some (by kernel_rfl))
 f29:=func185.trans (congrArg some (by kernel_rfl))
 f46:=⟨f254.name,by decide,func254.trans (congrArg some (by kernel_rfl))⟩
 f47:=func216.trans (congrArg some (by kernel_rfl))
 f48:=func217.trans (congrArg some (by kernel_rfl))
 f49:=⟨f255.name,by decide,func255.trans (congrArg some (by kernel_rfl))⟩
 f50:=⟨f256.name,by decide,func256.trans (congrArg some (by kernel_rfl))⟩
 f57:=⟨f257.name,by decide,func257.trans (congrArg some (by kernel_rfl))⟩
 t0:=underlying0
 a0:=isAgg0
 z0:=sizeOf0
 v0:=zeroValue0
 t3:=underlying3
 a3:=isAgg3
 z3:=sizeOf3
 v3:=zeroValue3
 t4:=underlying4
 a4:=isAgg4
 z4:=sizeOf4
 v4:=zeroValue4
 t5:=underlying5
 a5:=isAgg5
 z5:=sizeOf5
 v5:=zeroValue5
 t9:=underlying9
 a9:=isAgg9
 z9:=sizeOf9
 v9:=zeroValue9
 t22:=underlying171
 a22:=isAgg171
 z22:=sizeOf171
 v22:=zeroValue171
 t25:=underlying170
 a25:=isAgg170
 z25:=sizeOf170
 v25:=zeroValue170
 t39:=underlying164
 a39:=isAgg164
 z39:=sizeOf164
 v39:=zeroValue164
 t45:=underlying212
 a45:=isAgg212
 z45:=sizeOf212
 v45:=zeroValue212
 t46:=underlying213
 a46:=isAgg213
 z46:=sizeOf213
 v46:=zeroValue213
 t50:=underlying51
 a50:=isAgg51
 z50:=sizeOf51
 v50:=zeroValue51
 t53:=underlying165
 a53:=isAgg165
 z53:=sizeOf165
 v53:=zeroValue165
 t55:=underlying116
 a55:=isAgg116
 z55:=sizeOf116
 v55:=zeroValue116
 t66:=underlying250
 a66:=isAgg250
 z66:=sizeOf250
 v66:=zeroValue250
 t70:=underlying254
 a70:=isAgg254
 z70:=sizeOf254
 v70:=zeroValue254
 t76:=underlying268
 a76:=isAgg268
 z76:=sizeOf268
 v76:=zeroValue268
 t77:=underlying269
 a77:=isAgg269
 z77:=sizeOf269
 v77:=zeroValue269}
end Go.Proofs
namespace Go.Proofs.YtalmoejhjceflaaGreat
open Go.RowKit Go.Proofs.Tryz
variable {n m:Nat} {w:World} {b:List NItem}
section
open Go.Sort (flatK putRowK HoldsK get_flatK size_flatK)
def nA (b:NItem):List Value:=[.int .i64 b.key,.slice b.at_ b.vals.length b.cap]
theorem BL {w:World} {N:Nat} {f:Nat->Value} (h:w.rowIs n m N f) (d:Array Value):(Sort.putRow id w n 0 d).rowIs n m N (fun k=>if k<d.size then d[k]! else f k):=by
 obtain⟨c,e,b,j⟩:=h;refine⟨Sort.putCells id 0 d c,?_,by simp[Sort.putCells,b],fun i l=>?_⟩
 ·grind [Sort.putRow,Sort.mapBlock,Sort.onCells]
 grind [Sort.putCells]
theorem BH (w:World) (g:Nat) (d:Array Value) (k:Nat) (b:k≠g):(Sort.putRow id w g 0 d).heap[k]?=w.heap[k]?:=by
 grind [Sort.putRow,Sort.mapBlock]
section
variable {α:Type} [Inhabited α] (enc:α->List Value) (w:World) (g n:Nat) (d:Array α) (os:Array Obj)
theorem Ex:w.grownBy (sortWorldK enc 2 w g 0 n d os) (some g):=by
 unfold sortWorldK putRowK;refine⟨rfl,rfl,rfl,?_,fun k c b=>?_⟩
 ·simp
 show((Sort.putRow id (Sort.ahead w n) g 0 _).heap++os)[k]?=w.heap[k]?;rw[aa2 (by simp_all),BH _ _ _ _ (fun e=>b (by rw[e]))];rfl
theorem LY {N:Nat} {f:Nat->Value} (h:w.rowIs g m N f):(sortWorldK enc 2 w g 0 n d os).rowIs g m N (fun k=>if k<(flatK enc 2 d).size then(flatK enc 2 d)[k]! else f k):=by
 have b:=BL (w:=Sort.ahead w n) h (flatK enc 2 d);refine b.of_block ?_;unfold sortWorldK putRowK;show((Sort.putRow id (Sort.ahead w n) g 0 _).heap++os)[g]?=_;rw[aa2 b.lt]
end
structure ug (w:World) (g:Nat) where
 it:NItem
 ok:ItemOk w g it
instance (w:World) (g:Nat):Inhabited (ug w g):=⟨⟨⟨0,[],none,0⟩,⟨RdI.nil _ _ _,(by simp),by simp⟩⟩⟩
def tH (w:World) (g:Nat) (x:ug w g):List Value:=nA x.it
def qp (w:World) (g:Nat) (L:List NItem) (h: ∀b∈L,ItemOk w g b):Array (ug w g):=(L.attach.map fun x=>(⟨x.1,h x.1 x.2⟩:ug w g)).toArray
theorem md (h: ∀c∈b,ItemOk w n c):(qp w n b h).size=b.length:=by
 grind [qp]
theorem vN (h: ∀c∈b,ItemOk w n c):(qp w n b h).toList.map (fun x:ug w n=>x.it)=b:=by
 simp_all[qp]
theorem IW (d:Array (ug w n)) {j:Nat} {it:NItem} (c:(d.toList.map (fun x:ug w n=>x.it))[j]?=some it):
  (flatK (tH w n) 2 d)[j*2]! = .int .i64 it.key/\(flatK (tH w n) 2 d)[j*2+1]! =it.val:=by
 have b:j<d.size:=by grind
 grind [get_flatK,tH,nA,NItem.val]
theorem A5 (p:vm w n m b) (h: ∀c∈b,ItemOk w n c):HoldsK (tH w n) 2 w n 0 (qp w n b h):=by
 obtain⟨f,l,u,o⟩:=p;intro t s;rw[size_flatK,md]at s;have r:t/2<b.length:=by omega
 obtain⟨c,e⟩:=getElem?_of_lt r;have q:=IW (qp w n b h) (j:=t/2) (it:=c) (by grind [vN]);obtain⟨v,x⟩:=o _ _ e;rw[aa6];refine⟨?_,l.frozen t⟩;rw[l.cell (by omega)];grind
theorem ItemOk.sortW {d:Array (ug w n)} {c:Array Obj} {b:NItem} (h:ItemOk w n b):ItemOk (sortWorldK (tH w n) 2 w n 0 m d c) n b:=h.gb (Ex _ _ _ _ _ _)
theorem F0 (w:World) (g size:Nat):CmpLays prog 132 #[] (tH w g) 2 (fun a b=>jy a.it b.it) g 0 size w:=fun m e dk c x y=>
 kD x.it.key y.it.key x.it.at_ y.it.at_ x.it.cap y.it.cap x.it.vals y.it.vals _ x.ok.sortW.rd y.ok.sortW.rd x.ok.le y.ok.le
def qf (L:List NItem):Prop:= ∀(i j:Nat) a b,i<j->L[i]?=some a->L[j]?=some b-> ¬jy b a<0
theorem B6 (g cap:Nat) (L:List NItem) (w:World) (E:vm w g (cap*2) L) (m:L.length<4611686018427387904) (l: ∀A∈L,ItemOk w g A):
  Calls prog 198 #[.slice (some ⟨g,0,none⟩) L.length cap,.func (Fn.func 132) #[] #[]] w fun e y=>
   ∃p,e= .returned (.tuple #[])/\p.Perm L/\qf p/\vm y g (cap*2) p/\w.grownBy y (some g):=by
 have B: ∀args w,(callFunc 132 args).run prog w= .ok (.enter 132 args) w:=enters_of func132 (by kernel_rfl) rfl;obtain⟨f,q,C,D⟩:=E;have t:=q.lt;have c:=AnyQ.slices_SortFunc (α:=ug w g) Tryz.sortK 2 (fun w=>by kernel_rfl) (fun w=>by kernel_rfl) (tH w g) (fun _=>rfl) (fun x v z=>by simp[tH,nA]at z;rcases z with rfl|rfl<;>rfl) (fun a b=>jy a.it b.it) (Zb fun x:ug w g=>x.it) 132 #[] g 0 cap (qp w g L l) w B (F0 w g _) (A5 ⟨f,q,C,D⟩ l) t (by rw[md];exact m)
 change Calls prog 198 _ _ _ at c
 rw[md]at c;refine c.mono fun e y ⟨F,h,n,R,H,J,K⟩=>?_
 obtain⟨o,_,u⟩:=H;rw[md]at o;have s:(h.toList.map (fun x:ug w g=>x.it)).length=L.length:=by simp[o]
 refine⟨h.toList.map (fun x:ug w g=>x.it),F,?_,?_,?_,by grind [Ex]⟩
 ·have I:h.toList.Perm (qp w g L l).toList:=by
   have M:h.extract 0 L.length=h:=by grind
   grind [qp]
  grind [vN]
 ·intro i j a b r P Q;have G:j<h.size:=by grind
  have N:h[i]!.it=a:=by
   grind
  have O:h[j]!.it=b:=by
   grind
  have:=J i j (aaW _) r (by omega);grind [ltOf]
 rw[K];refine⟨_,LY _ _ _ _ _ _ q,by omega,fun j A G=>?_⟩;grind [IW,size_flatK]
theorem Qh (sx g cap:Nat) (L:List NItem) (w:World) (hL:vm w g (cap*2) L) (hcap:L.length<=cap) (hlen:L.length<=4611686018427387903) (hok: ∀it∈L,ItemOk w g it)
  (hS:w.rowIs sx 173 2 (fun j=>if j=0 then .slice (some ⟨g,0,none⟩) L.length cap else .func (Fn.func 132) #[] #[])) (hsx:sx≠g):
  Calls prog 136 #[.pointer (some ⟨sx,0,none⟩)] w fun e w'=>
   ∃L',e= .returned (.tuple #[])/\L'.Perm L/\qf L'/\vm w' g (cap*2) (bu L')/\w'.cell? ⟨sx,0,none⟩=some (.slice (some ⟨g,0,none⟩) (bu L').length cap)/\w'.rowIs sx 173 2 (fun j=>if j=0 then .slice (some ⟨g,0,none⟩) (bu L').length cap else .func (Fn.func 132) #[] #[])/\
    (∀k,k<w.heap.size->k≠g->k≠sx->w'.heap[k]?=w.heap[k]?)/\w.heap.size<=w'.heap.size/\w'.os=w.os/\w'.tape=w.tape/\w'.output=w.output:=by
 have HL:=aal hL;have HOK:=aal hok;have HS:=aal hS;have HN:=aal hsx;have hglt:g<w.heap.size:=by obtain⟨f,h1,_⟩:=hL;exact h1.lt
 have hslt:=hS.lt;clear hL hok hS hsx
 go_enter func136,ntmps136
 go_wp2_with fail
 have c0:(w.alloc (.cells #[.pointer (some ⟨sx,0,none⟩)] 237)).drew.cell? ⟨w.heap.size,0,none⟩=some (.pointer (some ⟨sx,0,none⟩)):=by go_simp
 have HE0:Hid (Ext w (w.alloc (.cells #[.pointer (some ⟨sx,0,none⟩)] 237)).drew):=aal ((Ext.refl _).alloc _).drew;have hz0:w.heap.size<(w.alloc (.cells #[.pointer (some ⟨sx,0,none⟩)] 237)).drew.heap.size:=by simp[World.drew]
 generalize w.alloc (.cells #[.pointer (some ⟨sx,0,none⟩)] 237)=w1 at*
 refine cX 8 (by kernel_rfl) (by kernel_rfl) ?_;simp only[abF,acy,abM,abL];generalize w1.drew=w2 at*
 have s0:w2.cell? ⟨sx,0,none⟩=some (.slice (some ⟨g,0,none⟩) L.length cap):=(cB HS.out HE0.out).cell (by omega);have s1:w2.cell? ⟨sx,1,none⟩=some (.func (Fn.func 132) #[] #[]):=(cB HS.out HE0.out).cell (by omega)
 iterate 8 still_step
 refine wpStill_nil ?_;have HC:=aal (B6 g cap L w2 (HL.out.ext HE0.out) (by omega) (fun it hit=>(HOK.out it hit).ext HE0.out));clear s1
 go_wp2_with fail
 refine HC.out.mono ?_;rintro e w3 ⟨L',rfl,hperm,hsorted,hlst,hgb⟩;have HP:=aal hperm;have HSO:=aal hsorted;have HLS:=aal hlst;have HG3:=aal hgb;have HLL:Hid (L'.length=L.length):=aal hperm.length_eq;clear hperm hsorted hlst hgb HC s0
 go_wp2_with fail
 have HOK3:Hid (∀it∈L',ItemOk w3 g it):=aal (fun it hit=>((HOK.out it (HP.out.subset hit)).ext HE0.out).gb HG3.out);have HS3:Hid (w3.rowIs sx 173 2 (fun j=>if j=0 then .slice (some ⟨g,0,none⟩) L.length cap else .func (Fn.func 132) #[] #[])):=aal ((cB HS.out HE0.out).of_block (HG3.out.block sx (aaA hslt HE0.out.size) (fun e=>HN.out (by injection e))));have d0:w3.cell? ⟨w.heap.size,0,none⟩=some (.pointer (some ⟨sx,0,none⟩)):=ox HG3.out c0 (by grind);have d1:w3.cell? ⟨sx,0,none⟩=some (.slice (some ⟨g,0,none⟩) L.length cap):=HS3.out.cell (by omega);have d2:w3.frozen? ⟨sx,0,none⟩=false:=HS3.out.frozen 0;have hcon:=uk g cap L' w.heap.size sx 0 w3.drew (HLS.out.ext ((Ext.refl _).drew)) (by rw[HLL.out];exact hcap) (by rw[HLL.out];omega) (fun it hit=>(HOK3.out it hit).ext ((Ext.refl _).drew)) d0 (show w3.drew.cell? ⟨sx,0+1,none⟩=_ from HS3.out.cell (i:=1) (by omega)) (by omega) HN.out;rw[HLL.out]at hcon;have HC:=aal hcon;clear hcon c0;have HG4:Hid (w2.grownBy w3.drew (some g)):=aal (iX HG3.out (fh ((Ext.refl _).drew) g))
 go_region_law (go_simp;go_at_call 199;refine HC.out.mono ?_;rintro e w5 ⟨rfl,hlst,hgb⟩;have HLS5:=aal hlst;have HG5:=aal hgb;have HS5:Hid (w5.rowIs sx 173 2 (fun j=>if j=0 then .slice (some ⟨g,0,none⟩) L.length cap else .func (Fn.func 132) #[] #[])):=aal (HS3.out.of_block (hgb.block sx HS3.out.lt (fun e=>HN.out (by injection e))));have f0:w5.cell? ⟨w.heap.size,0,none⟩=some (.pointer (some ⟨sx,0,none⟩)):=ox hgb d0 (by show w.heap.size≠g;omega);have f1:w5.cell? ⟨sx,0,none⟩=some (.slice (some ⟨g,0,none⟩) L.length cap):=HS5.out.cell (by omega);have f2:w5.frozen? ⟨sx,0,none⟩=false:=HS5.out.frozen 0;clear hlst hgb)
 all_goals
  go_wp2_with fail
  go_end0
  have hrow:=(HS5.out.set 0 (.slice (some ⟨g,0,none⟩) (bu L').length cap)).congr (g:=fun j=>if j=0 then .slice (some ⟨g,0,none⟩) (bu L').length cap else .func (Fn.func 132) #[] #[]) (fun j hj=>by
   match j,hj with
   |0,_=>rfl
   |1,_=>rfl)
  have hgg:=iX (iX (fh HE0.out g) HG4.out) HG5.out;refine⟨L',rfl,HP.out,HSO.out,?_,hrow.cell (by omega),hrow,fun k hk hkg hks=>?_,?_,hgg.os,hgg.tape,hgg.output⟩
  ·obtain⟨f,q1,q2,q3⟩:=HLS5.out;exact⟨f,q1.setOther (acE HN.out) _,q2,q3⟩
  ·rw[adk _ _ _ _ hks];exact hgg.block k hk (fun e=>hkg (by injection e))
  simpa[World.setCell] using hgg.size
end
theorem B7 (w:World):
  Calls prog 198 #[.slice none 0 0,.func (Fn.func 132) #[] #[]] w fun e w'=>e= .returned (.tuple #[])/\ ∃n,w'=w.drewN n:=by
 have hl: ∀w,Calls prog 127 #[.int .u64 0] w fun e w'=>e= .returned (.int .i64 0)/\w=w':=fun w=>by
  go_enter func127,ntmps127
  go_wp2
  go_ret
  refine⟨?_,rfl⟩;show Ending.returned (.int .i64 (wrap64 (wrap64 (Lib.len8 0))))=_;rw[show Lib.len8 0=0 from by rfl,acq 0 ⟨by omega,by omega⟩,acq 0 ⟨by omega,by omega⟩]
 have hi: ∀w,Calls prog 244 #[.slice none 0 0,.int .i64 0,.int .i64 0,.func (Fn.func 132) #[] #[]] w fun e w'=>e= .returned (.tuple #[])/\w=w':=fun w=>by
  go_enter func244,ntmps244
  go_wp2
  refine wp_loop_rounds 1 ?_;rw[rounds_succ]
  go_wp2
  go_end0
  simp
 have hp: ∀w,Calls prog 229 #[.slice none 0 0,.int .i64 0,.int .i64 0,.int .i64 0,.func (Fn.func 132) #[] #[]] w fun e w'=>e= .returned (.tuple #[])/\w=w':=fun w=>by
  have HI:=aal hi;clear hi hl
  go_enter func229,ntmps229
  go_wp2_with fail
  refine wp_loop_rounds 1 ?_;rw[rounds_succ]
  go_wp2_with (go_at_call 244;refine(HI.out _).mono ?_;rintro e w' ⟨rfl,rfl⟩)
  refine bodyPost_ret (results_none rfl _ _ _) rfl ?_
  simp
 have HP:=aal hp;have HLn:=aal hl;clear hp hl hi
 go_enter func198,ntmps198
 go_wp2_with (first|(go_at_call 127;refine(HLn.out _).mono ?_;rintro e w' ⟨rfl,rfl⟩)|(go_at_call 229;refine(HP.out _).mono ?_;rintro e w' ⟨rfl,rfl⟩))
 go_end0
 exact⟨rfl,0,rfl⟩
theorem um (w:World) (fv:Value):
  Calls prog 199 #[.slice none 0 0,fv] w fun e w'=>e= .returned (.slice none 0 0)/\w=w':=by
 go_enter func199,ntmps199
 go_wp2_with fail
 go_ret
 simp
theorem Qi (sx:Nat) (w:World) (hS:w.rowIs sx 173 2 (fun j=>if j=0 then .slice none 0 0 else .func (Fn.func 132) #[] #[])):
  Calls prog 136 #[.pointer (some ⟨sx,0,none⟩)] w fun e w'=>
   e= .returned (.tuple #[])/\w'.cell? ⟨sx,0,none⟩=some (.slice none 0 0)/\
    (∀k,k<w.heap.size->k≠sx->w'.heap[k]?=w.heap[k]?)/\w.heap.size<=w'.heap.size/\w'.os=w.os/\w'.tape=w.tape/\w'.output=w.output:=by
 have HS:=aal hS;have hslt:=hS.lt;clear hS
 go_enter func136,ntmps136
 go_wp2_with fail
 have c0:(w.alloc (.cells #[.pointer (some ⟨sx,0,none⟩)] 237)).drew.cell? ⟨w.heap.size,0,none⟩=some (.pointer (some ⟨sx,0,none⟩)):=by go_simp
 have HE0:Hid (Ext w (w.alloc (.cells #[.pointer (some ⟨sx,0,none⟩)] 237)).drew):=aal ((Ext.refl _).alloc _).drew;generalize w.alloc (.cells #[.pointer (some ⟨sx,0,none⟩)] 237)=w1 at*
 refine cX 8 (by kernel_rfl) (by kernel_rfl) ?_;simp only[abF,acy,abM,abL];generalize w1.drew=w2 at*
 have s0:w2.cell? ⟨sx,0,none⟩=some (.slice none 0 0):=(cB HS.out HE0.out).cell (by omega);have s1:w2.cell? ⟨sx,1,none⟩=some (.func (Fn.func 132) #[] #[]):=(cB HS.out HE0.out).cell (by omega)
 iterate 8 still_step
 refine wpStill_nil ?_;have HC:=aal (B7 w2);clear s1
 go_wp2_with fail
 refine HC.out.mono ?_;rintro e w3 ⟨rfl,n,rfl⟩;have HE3:=aal (HE0.out.drewN n);have d0:(w2.drewN n).cell? ⟨w.heap.size,0,none⟩=some (.pointer (some ⟨sx,0,none⟩)):=c0;have d1:(w2.drewN n).cell? ⟨sx,0,none⟩=some (.slice none 0 0):=s0;have d2:(w2.drewN n).frozen? ⟨sx,0,none⟩=false:=(cB HS.out HE3.out).frozen 0;clear HC s0 c0 HE0;generalize w2.drewN n=w3 at*
 have HC:Hid (∀(w:World) (fv:Value),Calls prog 199 #[.slice none 0 0,fv] w fun e w'=>e= .returned (.slice none 0 0)/\w=w'):=aal um
 go_wp2_with fail
 go_region_law (go_simp;go_at_call 199;refine(HC.out _ _).mono ?_;rintro e w5 ⟨rfl,rfl⟩)
 all_goals
  go_wp2_with fail
  go_end0
  refine⟨rfl,?_,fun k hk hks=>?_,?_,HE3.out.os,HE3.out.tape,HE3.out.output⟩
  ·exact(((cB HS.out HE3.out).drew.set 0 (.slice none 0 0)).cell (i:=0) (by omega))
  ·show((w3.drew.setCell ⟨sx,0,none⟩ (.slice none 0 0)).heap[k]?)=_;rw[adk _ _ _ _ hks];exact HE3.out.block k hk
  have:=HE3.out.size;simpa[World.setCell,World.drew] using this
end Go.Proofs.YtalmoejhjceflaaGreat
