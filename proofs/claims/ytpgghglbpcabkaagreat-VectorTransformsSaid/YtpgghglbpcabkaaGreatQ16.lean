/-
  Part 17 of a proof (walks and plain facts).
-/
import Derived.Test.YtpgghglbpcabkaaGreatQ15
import Derived.Deep.RegionHeld3
import Derived.Deep.RegionLaw
import Derived.Laws.EntriesVeiled
set_option linter.all false
set_option maxRecDepth 100000
set_option maxHeartbeats 64000000
namespace Go.Proofs.YtpgghglbpcabkaaGreat
open Go.RowKit
section
open Go.Sort (flatK putRowK HoldsK get_flatK size_flatK)
def kj (it:NItem):List Value:=[.int .i64 it.key,.slice it.at_ it.vals.length it.cap]
theorem ws {w:World} {g t N:Nat} {f:Nat->Value} (h:w.rowIs g t N f) (d:Array Value):(Sort.putRow id w g 0 d).rowIs g t N (fun k=>if k<d.size then d[k]! else f k):=by
 obtain⟨c,hb,hn,hc⟩:=h
 refine⟨Sort.putCells id 0 d c,?_,by simp[Sort.putCells,hn],fun i hi=>?_⟩
 ·simp[Sort.putRow,Sort.mapBlock,Array.getElem?_modify,hb,Sort.onCells]
 ·simp[Sort.putCells,hc i hi]
theorem wj (w:World) (g:Nat) (d:Array Value) (k:Nat) (hk:k≠g):(Sort.putRow id w g 0 d).heap[k]?=w.heap[k]?:=by
 simp[Sort.putRow,Sort.mapBlock,Array.getElem?_modify,Ne.symm hk]
theorem qC (w:World) (g:Nat) (d:Array Value):(Sort.putRow id w g 0 d).heap.size=w.heap.size:=by
 simp[Sort.putRow,Sort.mapBlock]
section
variable {α:Type} [Inhabited α] (enc:α->List Value) (w:World) (g n:Nat) (d:Array α) (os:Array Obj)
theorem yn:w.grownBy (sortWorldK enc 2 w g 0 n d os) (some g):=by
 unfold sortWorldK putRowK
 refine⟨rfl,rfl,rfl,?_,fun k hk hne=>?_⟩
 ·show w.heap.size<=((Sort.putRow id (Sort.ahead w n) g 0 _).heap++os).size
  rw[Array.size_append,qC]
  exact Nat.le_add_right _ _
 ·show((Sort.putRow id (Sort.ahead w n) g 0 _).heap++os)[k]?=w.heap[k]?
  rw[Array.getElem?_append_left (by rw[qC];exact hk),wj _ _ _ _ (fun e=>hne (by rw[e]))]
  rfl
theorem Dg {t N:Nat} {f:Nat->Value} (h:w.rowIs g t N f):(sortWorldK enc 2 w g 0 n d os).rowIs g t N (fun k=>if k<(flatK enc 2 d).size then(flatK enc 2 d)[k]! else f k):=by
 have h1:=ws (w:=Sort.ahead w n) h (flatK enc 2 d)
 refine h1.of_block ?_
 unfold sortWorldK putRowK
 show((Sort.putRow id (Sort.ahead w n) g 0 _).heap++os)[g]?=_
 rw[Array.getElem?_append_left h1.lt]
end
structure pu (w:World) (g:Nat) where
 it:NItem
 ok:ItemOk w g it
instance (w:World) (g:Nat):Inhabited (pu w g):=⟨⟨⟨0,[],none,0⟩,⟨RdI.nil _ _ _,(by intro p h;cases h),by simp⟩⟩⟩
def oJ (w:World) (g:Nat) (x:pu w g):List Value:=kj x.it
def m8 (w:World) (g:Nat) (L:List NItem) (h: ∀it∈L,ItemOk w g it):Array (pu w g):=(L.attach.map fun x=>(⟨x.1,h x.1 x.2⟩:pu w g)).toArray
theorem jq {w:World} {g:Nat} {L:List NItem} (h: ∀it∈L,ItemOk w g it):(m8 w g L h).size=L.length:=by
 unfold m8;rw[List.size_toArray,List.length_map,List.length_attach]
theorem rF {w:World} {g:Nat} {L:List NItem} (h: ∀it∈L,ItemOk w g it):(m8 w g L h).toList.map (fun x:pu w g=>x.it)=L:=by
 unfold m8
 rw[List.map_map]
 exact List.attach_map_subtype_val L
theorem AZ {w:World} {g:Nat} (d:Array (pu w g)) {j:Nat} {it:NItem} (hj:(d.toList.map (fun x:pu w g=>x.it))[j]?=some it):
  (flatK (oJ w g) 2 d)[j*2]! = .int .i64 it.key/\(flatK (oJ w g) 2 d)[j*2+1]! =it.val:=by
 have hlt:j<d.size:=by have:=(List.getElem?_eq_some_iff.1 hj).1;simpa using this
 have he:d[j]!.it=it:=by
  have:d.toList[j]?=some d[j]!:=by simp[hlt]
  rw[List.getElem?_map,this]at hj
  simpa using hj
 constructor
 ·rw[get_flatK _ _ _ _ (by omega),show j*2/2=j from by omega,show j*2%2=0 from by omega]
  simp[oJ,kj,he]
 ·rw[get_flatK _ _ _ _ (by omega),show(j*2+1)/2=j from by omega,show(j*2+1)%2=1 from by omega]
  simp[oJ,kj,he,NItem.val]
theorem vN {w:World} {g N:Nat} {L:List NItem} (hL:qk w g N L) (h: ∀it∈L,ItemOk w g it):HoldsK (oJ w g) 2 w g 0 (m8 w g L h):=by
 obtain⟨f,h1,h2,h3⟩:=hL
 intro t ht
 rw[size_flatK,jq]at ht
 have hj:t/2<L.length:=by omega
 obtain⟨it,hit⟩:=getElem?_of_lt hj
 have hfl:=AZ (m8 w g L h) (j:=t/2) (it:=it) (by rw[rF];exact hit)
 obtain⟨q1,q2⟩:=h3 _ _ hit
 rw[Nat.zero_add]
 refine⟨?_,h1.frozen t⟩
 rw[h1.cell (by omega)]
 rcases Nat.mod_two_eq_zero_or_one t with e|e
 ·rw[show t=t/2*2 from by omega,hfl.1,q1];rfl
 ·rw[show t=t/2*2+1 from by omega,hfl.2,q2];rfl
theorem ItemOk.sortW {w:World} {g n:Nat} {d:Array (pu w g)} {os:Array Obj} {it:NItem} (h:ItemOk w g it):ItemOk (sortWorldK (oJ w g) 2 w g 0 n d os) g it:=h.gb (yn _ _ _ _ _ _)
theorem y5 (w:World) (g size:Nat):CmpLays Tryz.prog 35 #[] (oJ w g) 2 (fun a b=>ip a.it b.it) g 0 size w:=fun m os dk hs x y=>
 jH x.it.key y.it.key x.it.at_ y.it.at_ x.it.cap y.it.cap x.it.vals y.it.vals _ x.ok.sortW.rd y.ok.sortW.rd x.ok.le y.ok.le
def ov (L:List NItem):Prop:= ∀(i j:Nat) a b,i<j->L[i]?=some a->L[j]?=some b-> ¬ip b a<0
theorem wG (g cap:Nat) (L:List NItem) (w:World) (hL:qk w g (cap*2) L) (hlen:L.length<4611686018427387904) (hok: ∀it∈L,ItemOk w g it):
  Calls Tryz.prog 79 #[.slice (some ⟨g,0,none⟩) L.length cap,.func (Fn.func 35) #[] #[]] w fun e w'=>
   ∃L',e= .returned (.tuple #[])/\L'.Perm L/\ov L'/\qk w' g (cap*2) L'/\w.grownBy w' (some g):=by
 have eg: ∀args w,(callFunc 35 args).run Tryz.prog w= .ok (.enter 35 args) w:=enters_of Tryz.func35 (by kernel_rfl) rfl
 obtain⟨f,h1,h2,h3⟩:=hL
 have hlt:=h1.lt
 have hcon:=AnyQ.slices_SortFunc (α:=pu w g) Tryz.sortK 2 (fun w=>by kernel_rfl) (fun w=>by kernel_rfl) (oJ w g) (fun _=>rfl) (fun x v hv=>by simp[oJ,kj]at hv;rcases hv with rfl|rfl<;>rfl) (fun a b=>ip a.it b.it) (Kn fun x:pu w g=>x.it) 35 #[] g 0 cap (m8 w g L hok) w eg (y5 w g _) (vN ⟨f,h1,h2,h3⟩ hok) hlt (by rw[jq];exact hlen)
 change Calls Tryz.prog 79 _ _ _ at hcon
 rw[jq]at hcon
 refine hcon.mono fun e w' ⟨he,d',n,os,hp,hs,hw⟩=>?_
 obtain⟨hsz,_,hperm⟩:=hp
 rw[jq]at hsz
 have hlen':(d'.toList.map (fun x:pu w g=>x.it)).length=L.length:=by simp[hsz]
 refine⟨d'.toList.map (fun x:pu w g=>x.it),he,?_,?_,?_,by rw[hw];exact yn _ _ _ _ _ _⟩
 ·have hp2:d'.toList.Perm (m8 w g L hok).toList:=by
   have e1:d'.extract 0 L.length=d':=by rw[<- hsz];simp
   have e2:(m8 w g L hok).extract 0 L.length=m8 w g L hok:=by
    have:=jq hok
    rw[<- this];simp
   rw[e1,e2]at hperm
   exact hperm
  have:=hp2.map (fun x:pu w g=>x.it)
  rw[rF]at this
  exact this
 ·intro i j a b hij ha hb
  have hj:j<d'.size:=by have:=(List.getElem?_eq_some_iff.1 hb).1;simpa using this
  have ea:d'[i]!.it=a:=by
   have:d'.toList[i]?=some d'[i]!:=by simp[show i<d'.size by omega]
   rw[List.getElem?_map,this]at ha;simpa using ha
  have eb:d'[j]!.it=b:=by
   have:d'.toList[j]?=some d'[j]!:=by simp[hj]
   rw[List.getElem?_map,this]at hb;simpa using hb
  have:=hs i j (Nat.zero_le _) hij (by omega)
  unfold ltOf at this
  rw[decide_eq_false_iff_not]at this
  change ¬ip d'[j]!.it d'[i]!.it<0 at this
  rw[ea,eb]at this
  exact this
 ·rw[hw]
  refine⟨_,Dg _ _ _ _ _ _ h1,by rw[hlen'];exact h2,fun j it hj=>?_⟩
  have hlt2:j<d'.size:=by have:=(List.getElem?_eq_some_iff.1 hj).1;simpa using this
  obtain⟨q1,q2⟩:=AZ d' hj
  rw[if_pos (by rw[size_flatK];omega),if_pos (by rw[size_flatK];omega)]
  exact⟨q1,q2⟩
theorem FI (sx g cap:Nat) (L:List NItem) (w:World) (hL:qk w g (cap*2) L) (hcap:L.length<=cap) (hlen:L.length<=4611686018427387903) (hok: ∀it∈L,ItemOk w g it)
  (hS:w.rowIs sx 69 2 (fun j=>if j=0 then .slice (some ⟨g,0,none⟩) L.length cap else .func (Fn.func 35) #[] #[])) (hsx:sx≠g):
  Calls Tryz.prog 39 #[.pointer (some ⟨sx,0,none⟩)] w fun e w'=>
   ∃L',e= .returned (.tuple #[])/\L'.Perm L/\ov L'/\qk w' g (cap*2) (cB L')/\w'.cell? ⟨sx,0,none⟩=some (.slice (some ⟨g,0,none⟩) (cB L').length cap)/\w'.rowIs sx 69 2 (fun j=>if j=0 then .slice (some ⟨g,0,none⟩) (cB L').length cap else .func (Fn.func 35) #[] #[])/\
    (∀k,k<w.heap.size->k≠g->k≠sx->w'.heap[k]?=w.heap[k]?)/\w.heap.size<=w'.heap.size/\w'.os=w.os/\w'.tape=w.tape/\w'.output=w.output:=by
 have HL:=Lib.hid hL
 have HOK:=Lib.hid hok
 have HS:=Lib.hid hS
 have HN:=Lib.hid hsx
 have hglt:g<w.heap.size:=by obtain⟨f,h1,_⟩:=hL;exact h1.lt
 have hslt:=hS.lt
 clear hL hok hS hsx
 go_enter Tryz.func39,Tryz.ntmps39
 go_wp2_with fail
 have c0:(w.alloc (.cells #[.pointer (some ⟨sx,0,none⟩)] 107)).drew.cell? ⟨w.heap.size,0,none⟩=some (.pointer (some ⟨sx,0,none⟩)):=by go_simp
 have HE0:Hid (Ext w (w.alloc (.cells #[.pointer (some ⟨sx,0,none⟩)] 107)).drew):=Lib.hid ((Ext.refl _).alloc _).drew
 have hz0:w.heap.size<(w.alloc (.cells #[.pointer (some ⟨sx,0,none⟩)] 107)).drew.heap.size:=by simp[World.drew]
 generalize w.alloc (.cells #[.pointer (some ⟨sx,0,none⟩)] 107)=w1 at*
 refine dV 8 (by kernel_rfl) (by kernel_rfl) ?_
 simp only[List.take_succ_cons,List.take_zero,List.drop_succ_cons,List.drop_zero]
 generalize w1.drew=w2 at*
 have s0:w2.cell? ⟨sx,0,none⟩=some (.slice (some ⟨g,0,none⟩) L.length cap):=(dP HS.out HE0.out).cell (by omega)
 have s1:w2.cell? ⟨sx,1,none⟩=some (.func (Fn.func 35) #[] #[]):=(dP HS.out HE0.out).cell (by omega)
 iterate 8 still_step
 refine wpStill_nil ?_
 have HC:=Lib.hid (wG g cap L w2 (HL.out.ext HE0.out) (by omega) (fun it hit=>(HOK.out it hit).ext HE0.out))
 clear s1
 go_wp2_with fail
 refine HC.out.mono ?_
 rintro e w3 ⟨L',rfl,hperm,hsorted,hlst,hgb⟩
 have HP:=Lib.hid hperm
 have HSO:=Lib.hid hsorted
 have HLS:=Lib.hid hlst
 have HG3:=Lib.hid hgb
 have HLL:Hid (L'.length=L.length):=Lib.hid hperm.length_eq
 clear hperm hsorted hlst hgb HC s0
 go_wp2_with fail
 have HOK3:Hid (∀it∈L',ItemOk w3 g it):=Lib.hid (fun it hit=>((HOK.out it (HP.out.subset hit)).ext HE0.out).gb HG3.out)
 have HS3:Hid (w3.rowIs sx 69 2 (fun j=>if j=0 then .slice (some ⟨g,0,none⟩) L.length cap else .func (Fn.func 35) #[] #[])):=Lib.hid ((dP HS.out HE0.out).of_block (HG3.out.block sx (Nat.lt_of_lt_of_le hslt HE0.out.size) (fun e=>HN.out (by injection e))))
 have d0:w3.cell? ⟨w.heap.size,0,none⟩=some (.pointer (some ⟨sx,0,none⟩)):=mJ HG3.out c0 (by show w.heap.size≠g;omega)
 have d1:w3.cell? ⟨sx,0,none⟩=some (.slice (some ⟨g,0,none⟩) L.length cap):=HS3.out.cell (by omega)
 have d2:w3.frozen? ⟨sx,0,none⟩=false:=HS3.out.frozen 0
 have hcon:=qK g cap L' w.heap.size sx 0 w3.drew (HLS.out.ext ((Ext.refl _).drew)) (by rw[HLL.out];exact hcap) (by rw[HLL.out];omega) (fun it hit=>(HOK3.out it hit).ext ((Ext.refl _).drew)) d0 (show w3.drew.cell? ⟨sx,0+1,none⟩=_ from HS3.out.cell (i:=1) (by omega)) (by omega) HN.out
 rw[HLL.out]at hcon
 have HC:=Lib.hid hcon
 clear hcon c0
 have HG4:Hid (w2.grownBy w3.drew (some g)):=Lib.hid (iG HG3.out (fP ((Ext.refl _).drew) g))
 go_region_law (go_simp;go_at_call 80;refine HC.out.mono ?_;rintro e w5 ⟨rfl,hlst,hgb⟩;have HLS5:=Lib.hid hlst;have HG5:=Lib.hid hgb;have HS5:Hid (w5.rowIs sx 69 2 (fun j=>if j=0 then .slice (some ⟨g,0,none⟩) L.length cap else .func (Fn.func 35) #[] #[])):=Lib.hid (HS3.out.of_block (hgb.block sx HS3.out.lt (fun e=>HN.out (by injection e))));have f0:w5.cell? ⟨w.heap.size,0,none⟩=some (.pointer (some ⟨sx,0,none⟩)):=mJ hgb d0 (by show w.heap.size≠g;omega);have f1:w5.cell? ⟨sx,0,none⟩=some (.slice (some ⟨g,0,none⟩) L.length cap):=HS5.out.cell (by omega);have f2:w5.frozen? ⟨sx,0,none⟩=false:=HS5.out.frozen 0;clear hlst hgb)
 all_goals
  go_wp2_with fail
  go_end0
  have hrow:=(HS5.out.set 0 (.slice (some ⟨g,0,none⟩) (cB L').length cap)).congr (g:=fun j=>if j=0 then .slice (some ⟨g,0,none⟩) (cB L').length cap else .func (Fn.func 35) #[] #[]) (fun j hj=>by
   match j,hj with
   |0,_=>rfl
   |1,_=>rfl)
  have hgg:=iG (iG (fP HE0.out g) HG4.out) HG5.out
  refine⟨L',rfl,HP.out,HSO.out,?_,hrow.cell (by omega),hrow,fun k hk hkg hks=>?_,?_,hgg.os,hgg.tape,hgg.output⟩
  ·obtain⟨f,q1,q2,q3⟩:=HLS5.out
   exact⟨f,q1.setOther (Ne.symm HN.out) _,q2,q3⟩
  ·rw[Below.heap_setCell _ _ _ _ hks]
   exact hgg.block k hk (fun e=>hkg (by injection e))
  ·simpa[World.setCell] using hgg.size
end
theorem wH (w:World):
  Calls Tryz.prog 79 #[.slice none 0 0,.func (Fn.func 35) #[] #[]] w fun e w'=>e= .returned (.tuple #[])/\ ∃n,w'=w.drewN n:=by
 have hl: ∀w,Calls Tryz.prog 117 #[.int .u64 0] w fun e w'=>e= .returned (.int .i64 0)/\w=w':=fun w=>by
  go_enter Tryz.func117,Tryz.ntmps117
  go_wp2
  go_ret
  refine⟨?_,rfl⟩
  show Ending.returned (.int .i64 (wrap64 (wrap64 (Lib.len8 0))))=_
  rw[show Lib.len8 0=0 from by decide+kernel,IntWalk.wrap64_in 0 ⟨by omega,by omega⟩,IntWalk.wrap64_in 0 ⟨by omega,by omega⟩]
 have hi: ∀w,Calls Tryz.prog 135 #[.slice none 0 0,.int .i64 0,.int .i64 0,.func (Fn.func 35) #[] #[]] w fun e w'=>e= .returned (.tuple #[])/\w=w':=fun w=>by
  go_enter Tryz.func135,Tryz.ntmps135
  go_wp2
  refine wp_loop_rounds 1 ?_
  rw[rounds_succ]
  go_wp2
  go_end0
  exact⟨rfl,rfl⟩
 have hp: ∀w,Calls Tryz.prog 116 #[.slice none 0 0,.int .i64 0,.int .i64 0,.int .i64 0,.func (Fn.func 35) #[] #[]] w fun e w'=>e= .returned (.tuple #[])/\w=w':=fun w=>by
  have HI:=Lib.hid hi
  clear hi hl
  go_enter Tryz.func116,Tryz.ntmps116
  go_wp2_with fail
  refine wp_loop_rounds 1 ?_
  rw[rounds_succ]
  go_wp2_with (go_at_call 135;refine(HI.out _).mono ?_;rintro e w' ⟨rfl,rfl⟩)
  refine bodyPost_ret (results_none rfl _ _ _) rfl ?_
  exact⟨rfl,rfl⟩
 have HP:=Lib.hid hp
 have HLn:=Lib.hid hl
 clear hp hl hi
 go_enter Tryz.func79,Tryz.ntmps79
 go_wp2_with (first|(go_at_call 117;refine(HLn.out _).mono ?_;rintro e w' ⟨rfl,rfl⟩)|(go_at_call 116;refine(HP.out _).mono ?_;rintro e w' ⟨rfl,rfl⟩))
 go_end0
 exact⟨rfl,0,rfl⟩
theorem qL (w:World) (fv:Value):
  Calls Tryz.prog 80 #[.slice none 0 0,fv] w fun e w'=>e= .returned (.slice none 0 0)/\w=w':=by
 go_enter Tryz.func80,Tryz.ntmps80
 go_wp2_with fail
 go_ret
 exact⟨rfl,rfl⟩
theorem FJ (sx:Nat) (w:World) (hS:w.rowIs sx 69 2 (fun j=>if j=0 then .slice none 0 0 else .func (Fn.func 35) #[] #[])):
  Calls Tryz.prog 39 #[.pointer (some ⟨sx,0,none⟩)] w fun e w'=>
   e= .returned (.tuple #[])/\w'.cell? ⟨sx,0,none⟩=some (.slice none 0 0)/\
    (∀k,k<w.heap.size->k≠sx->w'.heap[k]?=w.heap[k]?)/\w.heap.size<=w'.heap.size/\w'.os=w.os/\w'.tape=w.tape/\w'.output=w.output:=by
 have HS:=Lib.hid hS
 have hslt:=hS.lt
 clear hS
 go_enter Tryz.func39,Tryz.ntmps39
 go_wp2_with fail
 have c0:(w.alloc (.cells #[.pointer (some ⟨sx,0,none⟩)] 107)).drew.cell? ⟨w.heap.size,0,none⟩=some (.pointer (some ⟨sx,0,none⟩)):=by go_simp
 have HE0:Hid (Ext w (w.alloc (.cells #[.pointer (some ⟨sx,0,none⟩)] 107)).drew):=Lib.hid ((Ext.refl _).alloc _).drew
 generalize w.alloc (.cells #[.pointer (some ⟨sx,0,none⟩)] 107)=w1 at*
 refine dV 8 (by kernel_rfl) (by kernel_rfl) ?_
 simp only[List.take_succ_cons,List.take_zero,List.drop_succ_cons,List.drop_zero]
 generalize w1.drew=w2 at*
 have s0:w2.cell? ⟨sx,0,none⟩=some (.slice none 0 0):=(dP HS.out HE0.out).cell (by omega)
 have s1:w2.cell? ⟨sx,1,none⟩=some (.func (Fn.func 35) #[] #[]):=(dP HS.out HE0.out).cell (by omega)
 iterate 8 still_step
 refine wpStill_nil ?_
 have HC:=Lib.hid (wH w2)
 clear s1
 go_wp2_with fail
 refine HC.out.mono ?_
 rintro e w3 ⟨rfl,n,rfl⟩
 have HE3:=Lib.hid (HE0.out.drewN n)
 have d0:(w2.drewN n).cell? ⟨w.heap.size,0,none⟩=some (.pointer (some ⟨sx,0,none⟩)):=c0
 have d1:(w2.drewN n).cell? ⟨sx,0,none⟩=some (.slice none 0 0):=s0
 have d2:(w2.drewN n).frozen? ⟨sx,0,none⟩=false:=(dP HS.out HE3.out).frozen 0
 clear HC s0 c0 HE0
 generalize w2.drewN n=w3 at*
 have HC:Hid (∀(w:World) (fv:Value),Calls Tryz.prog 80 #[.slice none 0 0,fv] w fun e w'=>e= .returned (.slice none 0 0)/\w=w'):=Lib.hid qL
 go_wp2_with fail
 go_region_law (go_simp;go_at_call 80;refine(HC.out _ _).mono ?_;rintro e w5 ⟨rfl,rfl⟩)
 all_goals
  go_wp2_with fail
  go_end0
  refine⟨rfl,?_,fun k hk hks=>?_,?_,HE3.out.os,HE3.out.tape,HE3.out.output⟩
  ·exact(((dP HS.out HE3.out).drew.set 0 (.slice none 0 0)).cell (i:=0) (by omega))
  ·show((w3.drew.setCell ⟨sx,0,none⟩ (.slice none 0 0)).heap[k]?)=_
   rw[Below.heap_setCell _ _ _ _ hks]
   exact HE3.out.block k hk
  ·have:=HE3.out.size
   simpa[World.setCell,World.drew] using this
theorem Tryz.infoKeyed:(Tryz.prog.info? 74).map (fun i=>(i.zero,i.size,i.bytes))=some (some (.agg #[.int .i64 0,.slice none 0 0]),2,32):=by kernel_rfl
def uL (rows:List (List Int)) (x:List Int):Option Int:=
 if -4611686018427387904<=fd x (dO rows x) x.length/\fd x (dO rows x) x.length<=4611686018427387904 then some (fd x (dO rows x) x.length)else none
def oP (rows:List (List Int)) (x:List Int):Option (Int×List Int):=
 if FitB rows.length x then(match uL rows x,jr x with
  |some k,some y=>some (k,y)
  |_,_=>none)else none
def ic (rows:List (List Int)):List (List Int)->Option (List (Int×List Int))
 |[]=>some []
 |x::l=>match oP rows x,ic rows l with
  |some a,some b=>some (a::b)
  |_,_=>none
theorem jL {rows:List (List Int)}: ∀{l:List (List Int)} {k:Nat} {x:List Int},l[k]?=some x->oP rows x=none->ic rows l=none
 |[],_,_,h,_=>by simp at h
 |a::l,0,x,h,h'=>by simp at h;subst h;simp[ic,h']
 |a::l,k+1,x,h,h'=>by
  simp at h
  have:=jL h h'
  simp[ic,this]
def NItem.dat (it:NItem):Int×List Int:=(it.key,it.vals)
theorem qy {rows:List (List Int)}: ∀{l:List (List Int)} {L:List NItem},L.length=l.length->(∀(j:Nat) (it:NItem),L[j]?=some it-> ∃x,l[j]?=some x/\oP rows x=some it.dat)->ic rows l=some (L.map NItem.dat)
 |[],[],_,_=>rfl
 |[],_::_,h,_=>by simp at h
 |_::_,[],h,_=>by simp at h
 |x::l,it::L,h,hh=>by
  have h1:=hh 0 it rfl
  simp at h1
  have h2:=qy (rows:=rows) (l:=l) (L:=L) (by simpa using h) (fun j it' hj=>by
   obtain⟨y,q1,q2⟩:=hh (j+1) it' (by simpa using hj)
   exact⟨y,by simpa using q1,q2⟩)
  simp[ic,h1,h2]
def js (L:List NItem):List Value:=L.flatMap kj
theorem xz (L:List NItem) (it:NItem):js L++kj it=js (L++[it]):=by simp[js]
theorem ux: ∀{L:List NItem} {j:Nat} {it:NItem},L[j]?=some it->(js L)[j*2]?=some (.int .i64 it.key)/\(js L)[j*2+1]?=some it.val
 |[],_,_,h=>by simp at h
 |a::L,0,it,h=>by simp at h;subst h;simp[js,kj,NItem.val]
 |a::L,j+1,it,h=>by
  simp at h
  obtain⟨h1,h2⟩:=ux h
  have e:js (a::L)= .int .i64 a.key::a.val::js L:=by simp[js,kj,NItem.val]
  rw[e,show(j+1)*2=j*2+1+1 from by omega,show j*2+1+1+1=(j*2+1)+1+1 from rfl]
  simp only[List.getElem?_cons_succ]
  exact⟨h1,h2⟩
theorem zR (it:NItem): ∀u∈kj it,u.oneCell'=true:=by
 intro u hu
 simp[kj]at hu
 rcases hu with rfl|rfl<;>rfl
def Kl (v:Value):Nat->Value:=fun j=>if j=0 then v else .func (Fn.func 35) #[] #[]
def JZ (w:World) (sx:Nat) (v:Value) (it:NItem):Prop:=RdI .i64 w it.at_ it.vals/\(it.vals.length<=9223372036854775807/\it.vals.length<=it.cap)/\ ∀p,it.at_=some p->v.ownBlock≠some p.block/\sx<p.block/\p.block<w.heap.size
def IX (k:Nat) (w:World) (A:Option Addr) (M:List (List Int)):Prop:=M.length<=65536/\ ∃b,A=some ⟨b,0,none⟩/\k<=b/\b<w.heap.size/\ ∀(i:Nat) r,M[i]?=some r-> ∃A' c,w.cell? ⟨b,i,none⟩=some (.slice A' r.length c)/\r.length<=c/\r.length<=9223372036854775807/\RdI .i64 w A' r/\ ∀p,A'=some p->k<=p.block/\p.block<w.heap.size
def yM (k0:Nat) (w':World) (r:Option (List (Int×List Int))) (e:Ending):Prop:=match r with
 |none=>e= .returned (.tuple #[.slice none 0 0,.bool false])
 |some ks=> ∃L:List NItem,(L.map NItem.dat).Perm ks/\ov L/\ ∃A,e= .returned (.tuple #[.slice A (cB L).length (cB L).length,.bool true])/\jC .i64 w' A ((cB L).map NItem.vals)/\IX k0 w' A ((cB L).map NItem.vals)
theorem Cp {rows:List (List Int)} {x:List Int} {k:Int} (h:uL rows x=some k):oI (fd x (dO rows x) x.length)= .tuple #[.int .i64 k,.bool true]:=by
 unfold uL at h
 split at h
 ·cases h;unfold oI;rw[if_pos (by assumption)]
 ·cases h
theorem Co {rows:List (List Int)} {x:List Int} (h:uL rows x=none):oI (fd x (dO rows x) x.length)= .tuple #[.int .i64 0,.bool false]:=by
 unfold uL at h
 split at h
 ·cases h
 ·unfold oI;rw[if_neg (by assumption)]
theorem nI: ∀{l:List NItem} {p it:NItem},it∈eD p l->it∈l
 |[],_,_,h=>by simp[eD]at h
 |b::l,p,it,h=>by
  unfold eD at h
  split at h
  ·exact List.mem_cons_of_mem _ (nI h)
  ·rcases List.mem_cons.1 h with rfl|h
   ·exact List.mem_cons_self
   ·exact List.mem_cons_of_mem _ (nI h)
theorem qu {L:List NItem} {it:NItem} (h:it∈cB L):it∈L:=by
 cases L with
 |nil=>simp[cB]at h
 |cons a l=>
  unfold cB at h
  rcases List.mem_cons.1 h with rfl|h
  ·exact List.mem_cons_self
  ·exact List.mem_cons_of_mem _ (nI h)
theorem rQ: ∀(l:List NItem) (p:NItem),(eD p l).length<=l.length
 |[],_=>by simp[eD]
 |b::l,p=>by
  unfold eD
  have:=rQ l b
  split
  ·simp;omega
  ·simp;omega
theorem xm (L:List NItem):(cB L).length<=L.length:=by
 cases L with
 |nil=>simp[cB]
 |cons a l=>have:=rQ l a;simp[cB];omega
def Fb (L:List NItem) (m:Nat):Nat->Value:=fun j=>if j<m then(match L[j]? with|some it=>it.val|none=>undef)else .slice none 0 0
theorem tl (A B:Option Addr) (c d:Nat) (rows l:List (List Int)) (w:World) (hR:jC .i64 w A rows) (hl:jC .i64 w B l) (lr:rows.length<=9223372036854775807) (hc:rows.length<=c) (ll:l.length<=65536):
  Calls Tryz.prog 14 #[.slice A rows.length c,.slice B l.length d] w fun e w'=>yM w.heap.size w' (if ch rows then ic rows l else none) e/\Ext w w':=by
 have HR:=Lib.hid hR
 have HL:=Lib.hid hl
 clear hR hl
 cases hI:ch rows with
 |false=>
  have HV:Hid ((if ch rows then ic rows l else none)=none):=Lib.hid (by simp[hI])
  go_enter Tryz.func14,Tryz.ntmps14
  go_wp2_with (go_at_call 34;refine(gJ A c rows _ HR.out lr hc).mono ?_;rintro e w1 ⟨rfl,he⟩)
  go_ret2
  exact⟨rfl,he⟩
 |true=>
  have HSm:=Lib.hid (ee hI)
  have h8:rows.length<=8:=HSm.out.2.1
  go_enter Tryz.func14,Tryz.ntmps14
  go_wp2_with (go_at_call 34;refine(gJ A c rows _ HR.out lr hc).mono ?_;rintro e w1 ⟨rfl,he⟩;have HE:=Lib.hid he;clear he)
  clear hI
  obtain⟨wo,rfl⟩: ∃wo:World,wo=w1:=⟨_,rfl⟩
  go_loopw [22,8,9,10,11,12] (fun i _ _ _ _ _ wr=> ∃(k:Nat) (L:List NItem) (v:Value),k<=l.length/\i= .int .i64 k/\Hid (L.length=k/\(k=0->v= .slice none 0 0))/\Hid (∀(j:Nat) (it:NItem),L[j]?=some it-> ∃x,l[j]?=some x/\oP rows x=some it.dat)/\Hid (wr.ownsRow (wo.heap.size+1) 74 2 v k (js L))/\Hid (wr.rowIs wo.heap.size 69 2 (Kl v))/\Hid (Ext wo wr)/\Hid (∀it∈L,JZ wr wo.heap.size v it)) (fun i _ _ _ _ _ _=>l.length-(intOf i).toNat)
  case atStart=>
   refine⟨0,[],.slice none 0 0,Nat.zero_le _,rfl,Lib.hid ⟨rfl,fun _=>rfl⟩,Lib.hid (by simp),Lib.hid (World.ownsRow_nil _ _ _ _),Lib.hid ?_,Lib.hid ?_,Lib.hid (by simp)⟩
   ·refine World.rowIs_alloc wo #[.slice none 0 0,.func (Fn.func 35) #[] #[]] _ _ (fun i hi=>?_)
    match i,hi with
    |0,_=>rfl
    |1,_=>rfl
   ·exact(Ext.refl _).alloc _
  case round=>
   obtain⟨k,L,v,hk,rfl,HLen,HIt,HOwn,HRow,HE2,HIV⟩:=hrel
   by_cases hlt:k<l.length
   ·obtain⟨x,hx⟩:=getElem?_of_lt hlt
    obtain⟨b,off,BX,cx,rfl,hcx,hcxl,hlx,hrx⟩:=((HL.out.ext HE.out).ext HE2.out).at_ hx
    have HX:=Lib.hid hx
    have HRX:=Lib.hid hrx
    clear hx hrx
    cases hF:FitB rows.length x with
    |false=>
     have HN:Hid (ic rows l=none):=Lib.hid (jL HX.out (by unfold oP;rw[hF];rfl))
     go_wp2_with (go_at_call 36;refine(kk rows.length BX cx x _ HRX.out hlx).mono ?_;rintro e w2 ⟨rfl,rfl⟩)
     go_ret2
     exact⟨by rw[HN.out];rfl,HE.out.trans HE2.out⟩
    |true=>
     obtain⟨hxl,hxb⟩:=fY.1 hF
     have hxle:x.length<=rows.length:=by omega
     have hxge:rows.length<=x.length:=by omega
     have HXB:=Lib.hid hxb
     have HF:=Lib.hid hF
     have HA:=Lib.hid (pA HSm.out hxb)
     have HAL:=Lib.hid (iB rows x)
     clear hxl hxb
     go_wp2_with (go_at_call 36;refine(kk rows.length BX cx x _ HRX.out hlx).mono ?_;rintro e w2 ⟨rfl,rfl⟩)
     clear hF
     refine(pB A BX c cx rows x _ ((HR.out.ext HE.out).ext HE2.out) HRX.out (by omega) (fun i hi=>by rw[HSm.out.2.2.1 i hi];exact hxge) hlx).mono ?_
     rintro e w3 ⟨rfl,hrd,he3⟩
     have hcon:=vH BX (some ⟨wr.heap.size,0,none⟩) cx rows.length x (dO rows x) w3 (HRX.out.ext he3) hrd (by rw[HAL.out];exact hxle) (by omega) (by rw[HAL.out];omega) (fun i z hz=>iq HXB.out hz) HA.out
     rw[HAL.out]at hcon
     have HC:=Lib.hid hcon
     have HE3:=Lib.hid he3
     clear hcon hrd he3
     go_wp2_with fail
     cases hN:uL rows x with
     |none=>
      have hno:=HC.out
      rw[Co hN]at hno
      have HNone:Hid (ic rows l=none):=Lib.hid (jL HX.out (by unfold oP;rw[HF.out,hN];rfl))
      refine hno.mono ?_
      rintro e w4 ⟨rfl,he4⟩
      have HE4:=Lib.hid (HE3.out.trans he4)
      clear he4 hno HC hN
      go_wp2_with fail
      refine(ia BX cx x _ (HRX.out.ext HE4.out) (by omega)).mono ?_
      rintro e w5 ⟨hcv,he5⟩
      have HE5:=Lib.hid (((HE.out.trans HE2.out).trans HE4.out).trans he5)
      clear he5
      have hform: ∃va vb,e= .returned (.tuple #[va,.bool vb]):=by
       unfold DW at hcv
       split at hcv
       ·exact⟨_,_,hcv⟩
       ·obtain⟨A',c',h,_⟩:=hcv;exact⟨_,_,h⟩
      obtain⟨va,vb,rfl⟩:=hform
      clear hcv
      go_wp2_with fail
      go_ret2
      exact⟨by rw[HNone.out];rfl,HE5.out⟩
     |some key=>
      have hno:=HC.out
      rw[Cp hN]at hno
      refine hno.mono ?_
      rintro e w4 ⟨rfl,he4⟩
      have HE4:=Lib.hid (HE3.out.trans he4)
      have HNo:=Lib.hid hN
      clear he4 hno HC hN
      go_wp2_with fail
      refine(ia BX cx x _ (HRX.out.ext HE4.out) (by omega)).mono ?_
      rintro e w5 ⟨hcv,he5⟩
      have HE5:=Lib.hid (HE4.out.trans he5)
      clear he5
      cases hS:jr x with
      |none=>
       have HNone:Hid (ic rows l=none):=Lib.hid (jL HX.out (by unfold oP;rw[HF.out,HNo.out,hS];rfl))
       rw[hS]at hcv
       obtain rfl:=hcv
       clear hS
       go_wp2_with fail
       go_ret2
       exact⟨by rw[HNone.out];rfl,(HE.out.trans HE2.out).trans HE5.out⟩
      |some y=>
       rw[hS]at hcv
       obtain⟨AY,cy,rfl,hcy,hry,hby⟩:=hcv
       have HIO:Hid (oP rows x=some (key,y)):=Lib.hid (by unfold oP;rw[HF.out,HNo.out,hS];rfl)
       have HRY:=Lib.hid hry
       have HBY:=Lib.hid hby
       have HYL:Hid (y.length=x.length):=Lib.hid (by
        unfold jr at hS
        split at hS
        ·split at hS
         ·cases hS
         ·cases hS;split<;>simp
        ·cases hS)
       clear hS hry hby
       have HO5:=Lib.hid (xU HOwn.out HE5.out)
       have HR5:=Lib.hid (dP HRow.out HE5.out)
       have t0:w5.cell? ⟨wo.heap.size,0,none⟩=some v:=HR5.out.cell (by omega)
       have t1:w5.frozen? ⟨wo.heap.size,0,none⟩=false:=HR5.out.frozen 0
       have hslt:wo.heap.size<w5.heap.size:=HR5.out.lt
       have HRd:Hid (Rd (w5.alloc (.cells #[.int .i64 key,.slice AY y.length cy] 74)) (some ⟨w5.heap.size,0,none⟩) (kj ⟨key,y,AY,cy⟩)):=Lib.hid (fun _=>⟨w5.heap.size,0,rfl,fun i u hu=>by
        match i,hu with
        |0,hu=>simp[kj]at hu;subst hu;go_simp
        |1,hu=>simp[kj]at hu;subst hu;go_simp⟩)
       go_wp2_with (at_builtin;refine iA _ rfl (.tmp 51) (.tmp 55) _ rfl (wo.heap.size+1) 74 (.agg #[.int .i64 0,.slice none 0 0]) 2 32 Tryz.underlying67 Tryz.infoKeyed rfl (by omega) v k (js L) rfl (HO5.out.alloc _) (some ⟨w5.heap.size,0,none⟩) 1 1 _ rfl HRd.out rfl (zR _) (by simp only[maxLen];omega) (by omega) (by simp;omega) ?_;intro v6 w6 hown6 hg6 hb6;have HO6:=Lib.hid hown6;have HG6:=Lib.hid hg6;have HB6:=Lib.hid hb6;have hz6:w5.heap.size+1<=w6.heap.size:=(by have:=hg6.size;simpa using this);have s0:w6.cell? ⟨wo.heap.size,0,none⟩=some v:=(by refine hg6.cell (a:=⟨wo.heap.size,0,none⟩) (by rw[World.cell?_alloc_lt _ _ _ hslt];exact t0) (fun e=>?_);have:=(HO5.out.lt _ e.symm).1;simp at this;omega);have s1:w6.frozen? ⟨wo.heap.size,0,none⟩=false:=(by rw[World.frozen?_of_block (hg6.block wo.heap.size (by simp;omega) (fun e=>by have:=(HO5.out.lt _ e.symm).1;omega))];rw[World.frozen?_of_block (Below.heap_alloc _ _ _ hslt)];exact t1);obtain⟨g6,cap6,f6,rfl,_,_,_,_,_⟩:=sH hown6 (by omega);clear hown6 hg6 hb6 t0 t1)
       go_roundw
       case rel=>
        have hne: ∀j,v.ownBlock=some j->wo.heap.size+1<=j:=fun j hj=>(HO5.out.lt j hj).1
        have hw5:Ext wo (w5.alloc (.cells #[.int .i64 key,.slice AY y.length cy] 74)):=(HE2.out.trans HE5.out).alloc _
        have hw6:Ext wo w6:=hw5.grown HG6.out (fun j hj=>by have:=hne j hj;omega)
        have hr6:w6.rowIs wo.heap.size 69 2 (Kl v):=(HR5.out.alloc _).of_block (HG6.out.block wo.heap.size (by simp;omega) (fun e=>by have:=hne _ e.symm;omega))
        refine⟨k+1,L++[⟨key,y,AY,cy⟩],.slice (some ⟨g6,0,none⟩) (k+1) cap6,by omega,by go_num,Lib.hid ⟨by simp[HLen.out.1],fun h=>by omega⟩,Lib.hid (fun j it hj=>?_),Lib.hid ?_,Lib.hid ?_,Lib.hid (hw6.setCell (Nat.le_refl _) _),Lib.hid (fun it hit=>?_)⟩
        ·rcases Nat.lt_or_ge j L.length with h|h
         ·rw[List.getElem?_append_left h]at hj
          exact HIt.out j it hj
         ·rw[List.getElem?_append_right h]at hj
          have hj0:j-L.length=0:=by
           rcases Nat.eq_zero_or_pos (j-L.length)with h0|h0
           ·exact h0
           ·rw[List.getElem?_eq_none (by simp;omega)]at hj;cases hj
          rw[hj0]at hj
          simp at hj
          subst hj
          have:j=k:=by have:=HLen.out.1;omega
          subst this
          exact⟨x,HX.out,HIO.out⟩
        ·rw[<- xz]
         exact ownsRow_setCell_below HO6.out (by show wo.heap.size<wo.heap.size+1;omega) _
        ·exact(hr6.set 0 _).congr (fun j hj=>by
          match j,hj with
          |0,_=>rfl
          |1,_=>rfl)
        ·rcases List.mem_append.1 hit with h|h
         ·obtain⟨q1,q2,q3⟩:=HIV.out it h
          have r5:RdI .i64 (w5.alloc (.cells #[.int .i64 key,.slice AY y.length cy] 74)) it.at_ it.vals:=q1.ext (HE5.out.alloc _)
          have hsz:=HE5.out.size
          refine⟨fun hn=>?_,q2,fun p hp=>?_⟩
          ·obtain⟨b',off',hb',hc'⟩:=r5 hn
           obtain⟨q4,q5,q6⟩:=q3 _ hb'
           refine⟨b',off',hb',fun i u hu=>?_⟩
           rw[World.cell?_setCell_other _ _ _ _ (fun e=>by have:=congrArg Addr.block e;simp at this q5;omega)]
           exact HG6.out.cell (hc' i u hu) (fun e=>q4 e.symm)
          ·obtain⟨q4,q5,q6⟩:=q3 p hp
           refine⟨fun e=>?_,q5,by simp[World.setCell];omega⟩
           rcases HB6.out with h6|h6
           ·rw[h6]at e;exact q4 e
           ·rw[h6]at e
            injection e with e
            simp at e;omega
         ·simp at h
          subst h
          have r5:RdI .i64 (w5.alloc (.cells #[.int .i64 key,.slice AY y.length cy] 74)) AY y:=HRY.out.ext ((Ext.refl _).alloc _)
          have hsz:=HE4.out.size
          have hs2:=HE2.out.size
          have hrl:=HRow.out.lt
          have ho:=HOwn.out
          have q3: ∀p,AY=some p->v.ownBlock≠some p.block/\wo.heap.size<p.block/\p.block<w5.heap.size:=fun p hp=>by
           obtain⟨h1,h2⟩:=HBY.out p hp
           refine⟨fun e=>?_,by omega,h2⟩
           have:=(ho.lt _ e).2
           omega
          refine⟨fun hn=>?_,⟨by show y.length<=_;rw[HYL.out];omega,hcy⟩,fun p hp=>?_⟩
          ·obtain⟨b',off',hb',hc'⟩:=r5 hn
           obtain⟨q4,q5,q6⟩:=q3 _ hb'
           refine⟨b',off',hb',fun i u hu=>?_⟩
           rw[World.cell?_setCell_other _ _ _ _ (fun e=>by have:=congrArg Addr.block e;simp at this q5;omega)]
           exact HG6.out.cell (hc' i u hu) (fun e=>q4 e.symm)
          ·obtain⟨q4,q5,q6⟩:=q3 p hp
           refine⟨fun e=>?_,q5,by simp[World.setCell];omega⟩
           rcases HB6.out with h6|h6
           ·rw[h6]at e;exact q4 e
           ·rw[h6]at e
            injection e with e
            simp at e;omega
       case measure=>simp[intOf];omega
   ·have hkl:k=l.length:=by omega
    have HIO:Hid (ic rows l=some (L.map NItem.dat)):=Lib.hid (qy (by rw[HLen.out.1,hkl]) HIt.out)
    by_cases hk0:0<k
    ·obtain⟨g,cap,f,rfl,hcap,hcm,hg,hrow,hf⟩:=sH HOwn.out hk0
     have HLst:Hid (qk wr g (cap*2) L):=Lib.hid ⟨f,hrow,by rw[HLen.out.1];omega,fun j it hj=>by
      obtain⟨q1,q2⟩:=ux hj
      exact⟨hf _ _ q1,hf _ _ q2⟩⟩
     have HIV2:=Lib.hid HIV.out
     have hcon:=FI wo.heap.size g cap L wr HLst.out (by rw[HLen.out.1];exact hcap) (by rw[HLen.out.1];omega) (fun it hit=>by
      obtain⟨q1,q2,q3⟩:=HIV.out it hit
      exact⟨q1,fun p hp e=>(q3 p hp).1 (by simp[Value.ownBlock,e]),q2.1⟩) (by rw[HLen.out.1];exact HRow.out) (by omega)
     have HC:=Lib.hid hcon
     have hglt:=hrow.lt
     have hslt:=HRow.out.lt
     clear hcon hf hrow hkl
     go_wp2_with fail
     refine HC.out.mono ?_
     rintro e w5 ⟨L',rfl,hperm,hsort,hlst,hcell,hrow5,hblk,hsz,h1,h2,h3⟩
     have HP:=Lib.hid hperm
     have HSo:=Lib.hid hsort
     have HL5:=Lib.hid hlst
     have HE5:Hid (Ext wo w5):=Lib.hid ⟨h1.trans HE2.out.os,h2.trans HE2.out.tape,h3.trans HE2.out.output,Nat.le_trans HE2.out.size hsz,fun j hj=>by
      rw[hblk j (Nat.lt_of_lt_of_le hj HE2.out.size) (by omega) (by omega)]
      exact HE2.out.block j hj⟩
     have HIt5:Hid (∀it∈cB L',Iu .i64 w5 it.val it.vals):=Lib.hid (fun it hit=>by
      obtain⟨q1,q2,q3⟩:=HIV.out it (hperm.subset (qu hit))
      refine⟨it.at_,it.cap,rfl,q2.2,q2.1,fun hn=>?_⟩
      obtain⟨b',off',hb',hc'⟩:=q1 hn
      obtain⟨r1,r2,r3⟩:=q3 _ hb'
      refine⟨b',off',hb',fun i u hu=>?_⟩
      rw[World.cell?_of_block (w:=wr) (hblk b' r3 (fun e=>r1 (by simp[Value.ownBlock,e])) (Nat.ne_of_gt r2))]
      exact hc' i u hu)
     have HBk:Hid (∀it∈cB L',∀p,it.at_=some p->wo.heap.size<p.block/\p.block<w5.heap.size):=Lib.hid (fun it hit p hp=>by
      obtain⟨q1,q2,q3⟩:=HIV.out it (hperm.subset (qu hit))
      obtain⟨r1,r2,r3⟩:=q3 _ hp
      exact⟨r2,Nat.lt_of_lt_of_le r3 hsz⟩)
     have hm:(cB L').length<=65536:=by
      have h1:=xm L'
      have h2:=hperm.length_eq
      rw[HLen.out.1]at h2
      omega
     have hmk:=run_make_row' (P:=Tryz.prog) 22 35 (.slice none 0 0) 24 Tryz.underlying22 Tryz.infoSlI64 rfl .i64 .i64 (cB L').length (by omega) (by omega)
     have hcell2: ∀o,(w5.alloc o).cell? ⟨wo.heap.size,0,none⟩=some (.slice (some ⟨g,0,none⟩) (cB L').length cap):=fun o=>by rw[World.cell?_alloc_lt _ _ _ (by show wo.heap.size<_;omega)];exact hcell
     have HS0:=Lib.hid (World.rowIs_made w5 (.slice none 0 0) (cB L').length 35)
     clear hperm hsort hlst hrow5 hblk h1 h2 h3 HC
     go_wp2_with fail
     clear hmk hcell2 hcell
     go_loopw [67,14,15] (fun i _ _ wx=> ∃m:Nat,m<=(cB L').length/\i= .int .i64 m/\Hid (wx.rowIs w5.heap.size 35 (cB L').length (Fb (cB L') m))/\Hid (Ext w5 wx)) (fun i _ _ _=>(cB L').length-(intOf i).toNat)
     case atStart=>exact⟨0,Nat.zero_le _,rfl,Lib.hid (HS0.out.congr (fun j _=>by simp[Fb])),Lib.hid ((Ext.refl _).alloc _)⟩
     case round=>
      clear HS0
      obtain⟨wp,rfl⟩: ∃wp:World,wp=wr:=⟨_,rfl⟩
      obtain⟨m,hmm,rfl,HO,HX5⟩:=hrel
      by_cases hml:m<(cB L').length
      ·obtain⟨it,hit⟩:=getElem?_of_lt hml
       have HIT:=Lib.hid hit
       have t1:=(HL5.out.ext HX5.out).cell0 hit
       have t2:=(HL5.out.ext HX5.out).cell1 hit
       have hlt5:=HO.out.lt
       have t3: ∀o,(wp.alloc o).cell? ⟨w5.heap.size,m,none⟩=some (.slice none 0 0):=fun o=>by
        rw[(HO.out.alloc o).cell hml];simp[Fb]
       have t4: ∀o,(wp.alloc o).frozen? ⟨w5.heap.size,m,none⟩=false:=fun o=>(HO.out.alloc o).frozen m
       clear hit
       go_wp2_with fail
       go_roundw
       case rel=>
        refine⟨m+1,by omega,by go_num,Lib.hid (((HO.out.set m _).congr (fun j _=>?_)).alloc _),Lib.hid ((HX5.out.setCell (Nat.le_refl _) _).alloc _)⟩
        unfold Fb
        by_cases e:j=m
        ·subst e
         rw[if_pos rfl,if_pos (by omega),HIT.out];rfl
        ·rw[if_neg e]
         by_cases e2:j<m
         ·rw[if_pos e2,if_pos (by omega)]
         ·rw[if_neg e2,if_neg (by omega)]
       case measure=>simp[intOf];omega
      ·go_wp2_with fail
       go_ret2
       have hmeq:m=(cB L').length:=by omega
       refine⟨?_,(HE.out.trans HE5.out).trans HX5.out⟩
       rw[HIO.out]
       have hsw:=HE.out.size
       have hs5:=HE5.out.size
       have hs6:=HX5.out.size
       have hnew:IX w.heap.size wp (some ⟨w5.heap.size,0,none⟩) ((cB L').map NItem.vals):=by
        refine⟨by rw[List.length_map];exact hm,w5.heap.size,rfl,by omega,HO.out.lt,fun i r hr=>?_⟩
        rw[List.getElem?_map]at hr
        cases hci:(cB L')[i]? with
        |none=>rw[hci]at hr;cases hr
        |some it=>
         rw[hci]at hr
         simp at hr
         subst hr
         have hil:=(List.getElem?_eq_some_iff.1 hci).1
         have hmem:=List.mem_of_getElem? hci
         obtain⟨A1,c1,e1,e2,e3,e4⟩:=(HIt5.out it hmem).ext HX5.out
         refine⟨it.at_,it.cap,?_,?_,e3,?_,fun p hp=>?_⟩
         ·rw[HO.out.cell hil]
          unfold Fb
          rw[if_pos (by omega),hci];rfl
         ·unfold NItem.val at e1;cases e1;exact e2
         ·unfold NItem.val at e1;cases e1;exact e4
         ·have:=HBk.out it hmem p hp
          omega
       refine⟨L',HP.out.map NItem.dat,HSo.out,some ⟨w5.heap.size,0,none⟩,rfl,fun _=>⟨w5.heap.size,0,rfl,fun i r hr=>?_⟩,hnew⟩
       obtain⟨_,b1,e1,_,_,e2⟩:=hnew
       injection e1 with e1
       injection e1 with e1
       subst e1
       obtain⟨A1,c1,e3,e4,e5,e6,_⟩:=e2 i r hr
       exact⟨_,by rw[Nat.zero_add];exact e3,A1,c1,rfl,e4,e5,e6⟩
    ·have hv:=HLen.out.2 (by omega)
     have hL0:L=[]:=List.eq_nil_of_length_eq_zero (by rw[HLen.out.1];omega)
     subst hv hL0
     have HC:=Lib.hid (FJ wo.heap.size wr HRow.out)
     have hslt:=HRow.out.lt
     clear hkl
     go_wp2_with fail
     refine HC.out.mono ?_
     rintro e w5 ⟨rfl,hcell,hblk,hsz,h1,h2,h3⟩
     have HE5:Hid (Ext wo w5):=Lib.hid ⟨h1.trans HE2.out.os,h2.trans HE2.out.tape,h3.trans HE2.out.output,Nat.le_trans HE2.out.size hsz,fun j hj=>by
      rw[hblk j (Nat.lt_of_lt_of_le hj HE2.out.size) (by omega)]
      exact HE2.out.block j hj⟩
     have hmk: ∀w:World,(Instr.makeSlice 22 (.int .i64 0) (.int .i64 0)).run Tryz.prog w= .ok (.slice (some ⟨w.heap.size,0,none⟩) 0 0) (w.alloc (.cells (madeCells #[.slice none 0 0] 0) 35)):=run_make_row' (P:=Tryz.prog) 22 35 (.slice none 0 0) 24 Tryz.underlying22 Tryz.infoSlI64 rfl .i64 .i64 0 (by omega) (by omega)
     have hcell2: ∀o,(w5.alloc o).cell? ⟨wo.heap.size,0,none⟩=some (.slice none 0 0):=fun o=>by rw[World.cell?_alloc_lt _ _ _ (by show wo.heap.size<_;omega)];exact hcell
     clear hblk h1 h2 h3 HC
     go_wp2_with fail
     refine wp_loop_rounds 1 ?_
     rw[rounds_succ]
     go_wp2_with fail
     go_ret2
     refine⟨?_,(HE.out.trans HE5.out).alloc _⟩
     rw[HIO.out]
     exact⟨[],.refl _,(by intro i j a b _ h;simp at h),some ⟨w5.heap.size,0,none⟩,rfl,jC.nil _ _ _,by simp[cB],w5.heap.size,rfl,by have:=HE.out.size;have:=HE5.out.size;omega,by simp,by intro i r hr;simp[cB]at hr⟩
def yD (a b:Int×List Int):Prop:=a.1<b.1\/a.1=b.1/\d6 a.2 b.2<0
instance (a b:Int×List Int):Decidable (yD a b):=inferInstanceAs (Decidable (_\/_))
def qQ (x:Int×List Int):List (Int×List Int)->List (Int×List Int)
 |[]=>[x]
 |a::l=>if yD a x then a::qQ x l else if yD x a then x::a::l else a::l
def jU (l:List (Int×List Int)):List (Int×List Int):=l.foldl (fun acc x=>qQ x acc) []
theorem nT (a:Int×List Int): ¬yD a a:=by
 unfold yD;rw[ir];omega
theorem uC {a b c:Int×List Int} (h1:yD a b) (h2:yD b c):yD a c:=by
 unfold yD at*
 rcases h1 with h1|⟨h1,h1'⟩<;>rcases h2 with h2|⟨h2,h2'⟩
 ·omega
 ·omega
 ·omega
 ·exact .inr ⟨by omega,kR h1' h2'⟩
theorem pM {a b:Int×List Int} (h1: ¬yD a b) (h2: ¬yD b a):a=b:=by
 unfold yD at*
 have ha:=kh a.2 b.2
 have e1:a.1=b.1:=by omega
 have e2:d6 a.2 b.2=0:=by omega
 exact Prod.ext e1 (mG e2)
def Ar (l:List (Int×List Int)):Prop:=l.Pairwise yD
theorem AA: ∀{l m:List (Int×List Int)},Ar l->Ar m->(∀x,x∈l↔x∈m)->l=m
 |[],[],_,_,_=>rfl
 |[],b::m,_,_,h=>by have:=(h b).2 List.mem_cons_self;simp at this
 |a::l,[],_,_,h=>by have:=(h a).1 List.mem_cons_self;simp at this
 |a::l,b::m,hl,hm,h=>by
  obtain⟨hl1,hl2⟩:=List.pairwise_cons.1 hl
  obtain⟨hm1,hm2⟩:=List.pairwise_cons.1 hm
  have e:a=b:=by
   rcases List.mem_cons.1 ((h a).1 List.mem_cons_self)with e|ha
   ·exact e
   ·rcases List.mem_cons.1 ((h b).2 List.mem_cons_self)with e|hb
    ·exact e.symm
    ·exact absurd (uC (hm1 a ha) (hl1 b hb)) (nT b)
  subst e
  rw[AA hl2 hm2 (fun x=>?_)]
  constructor
  ·intro hx
   rcases List.mem_cons.1 ((h x).1 (List.mem_cons_of_mem _ hx))with e|hx'
   ·subst e;exact absurd (hl1 x hx) (nT x)
   ·exact hx'
  ·intro hx
   rcases List.mem_cons.1 ((h x).2 (List.mem_cons_of_mem _ hx))with e|hx'
   ·subst e;exact absurd (hm1 x hx) (nT x)
   ·exact hx'
theorem sN {x y:Int×List Int}: ∀{l:List (Int×List Int)},y∈qQ x l↔y=x\/y∈l
 |[]=>by simp[qQ]
 |a::l=>by
  unfold qQ
  split
  ·rw[List.mem_cons,sN,List.mem_cons]
   constructor
   ·rintro(h|h|h)
    ·exact .inr (.inl h)
    ·exact .inl h
    ·exact .inr (.inr h)
   ·rintro(h|h|h)
    ·exact .inr (.inl h)
    ·exact .inl h
    ·exact .inr (.inr h)
  ·split
   ·rw[List.mem_cons]
   ·rename_i h1 h2
    have e:=pM h2 h1
    constructor
    ·exact .inr
    ·rintro(h|h)
     ·rw[h,e];exact List.mem_cons_self
     ·exact h
theorem x5 {x:Int×List Int}: ∀{l:List (Int×List Int)},Ar l->Ar (qQ x l)
 |[],_=>by simp[qQ,Ar]
 |a::l,h=>by
  obtain⟨h1,h2⟩:=List.pairwise_cons.1 h
  unfold qQ
  split
  ·rename_i hlt
   refine List.pairwise_cons.2 ⟨fun y hy=>?_,x5 h2⟩
   rcases sN.1 hy with e|hy
   ·rw[e];exact hlt
   ·exact h1 y hy
  ·split
   ·rename_i hlt
    refine List.pairwise_cons.2 ⟨fun y hy=>?_,h⟩
    rcases List.mem_cons.1 hy with e|hy
    ·rw[e];exact hlt
    ·exact uC hlt (h1 y hy)
   ·exact h
theorem r7: ∀(l acc:List (Int×List Int)),Ar acc->Ar (l.foldl (fun acc x=>qQ x acc) acc)/\ ∀y,y∈l.foldl (fun acc x=>qQ x acc) acc↔y∈l\/y∈acc
 |[],acc,h=>⟨h,fun y=>by simp⟩
 |x::l,acc,h=>by
  obtain⟨h1,h2⟩:=r7 l (qQ x acc) (x5 h)
  refine⟨h1,fun y=>?_⟩
  show y∈l.foldl _ (qQ x acc)↔_
  rw[h2,sN,List.mem_cons]
  constructor
  ·rintro(h|h|h)
   ·exact .inl (.inr h)
   ·exact .inl (.inl h)
   ·exact .inr h
  ·rintro((h|h)|h)
   ·exact .inr (.inl h)
   ·exact .inl h
   ·exact .inr (.inr h)
theorem Dm (l:List (Int×List Int)):Ar (jU l):=(r7 l [] (by simp[Ar])).1
theorem Dn {l:List (Int×List Int)} {y:Int×List Int}:y∈jU l↔y∈l:=by
 unfold jU;rw[(r7 l [] (by simp[Ar])).2];simp
theorem rO {a b:NItem}:ip a b<0↔yD a.dat b.dat:=by unfold ip yD;rw[vw];rfl
theorem xu {a b:NItem}:rY a b=true↔a.dat=b.dat:=by
 unfold rY ip
 rw[beq_iff_eq,Ce]
 constructor
 ·rintro⟨h1,h2⟩;exact Prod.ext h1 h2
 ·intro h;exact⟨congrArg Prod.fst h,congrArg Prod.snd h⟩
theorem qr: ∀{l:List NItem} {p:NItem},(∀(i j:Nat) a b,i<j->(p::l)[i]?=some a->(p::l)[j]?=some b-> ¬ip b a<0)->
  Ar ((p::eD p l).map NItem.dat)/\ ∀y,y∈(p::eD p l).map NItem.dat↔y∈(p::l).map NItem.dat
 |[],p,_=>by simp[eD,Ar]
 |b::l,p,h=>by
  have hs: ∀(i j:Nat) a c,i<j->(b::l)[i]?=some a->(b::l)[j]?=some c-> ¬ip c a<0:=fun i j a c hij ha hc=>h (i+1) (j+1) a c (by omega) (by simpa using ha) (by simpa using hc)
  obtain⟨h1,h2⟩:=qr hs
  have hpb: ¬ip b p<0:=h 0 1 p b (by omega) rfl rfl
  unfold eD
  split
  ·rename_i e
   rw[xu]at e
   simp only[List.map_cons]at h1 h2⊢
   rw[<- e]
   refine⟨h1,fun y=>?_⟩
   rw[h2 y]
   simp
  ·rename_i e
   rw[xu]at e
   refine⟨?_,fun y=>?_⟩
   ·rw[List.map_cons]
    refine List.pairwise_cons.2 ⟨fun y hy=>?_,h1⟩
    rw[h2 y]at hy
    obtain⟨c,hc,rfl⟩:=List.mem_map.1 hy
    obtain⟨j,hj,hjc⟩:=List.getElem_of_mem hc
    have q: ¬ip c p<0:=h 0 (j+1) p c (by omega) rfl (by simp;rw[List.getElem?_eq_getElem hj,hjc])
    rw[rO]at q
    by_cases hlt:yD p.dat c.dat
    ·exact hlt
    ·have e2:=pM q hlt
     exfalso
     have q2: ¬ip c b<0:=by
      cases j with
      |zero=>simp at hjc;subst hjc;unfold ip;rw[vw,ir];omega
      |succ j=>exact hs 0 (j+1) b c (by omega) rfl (by rw[List.getElem?_eq_getElem hj,hjc])
     rw[rO,e2]at q2
     rw[rO]at hpb
     exact e (pM hpb q2)
   ·rw[List.map_cons,List.mem_cons,h2 y]
    simp
theorem vC {L:List NItem} {ks:List (Int×List Int)} (hp:(L.map NItem.dat).Perm ks) (hs:ov L):(cB L).map NItem.dat=jU ks:=by
 have hc:Ar ((cB L).map NItem.dat)/\ ∀y,y∈(cB L).map NItem.dat↔y∈L.map NItem.dat:=by
  cases L with
  |nil=>simp[cB,Ar]
  |cons a l=>exact qr hs
 refine AA hc.1 (Dm ks) (fun x=>?_)
 rw[hc.2 x,Dn]
 exact hp.mem_iff
theorem oG {L:List NItem} {ks:List (Int×List Int)} (hp:(L.map NItem.dat).Perm ks) (hs:ov L):(cB L).map NItem.vals=(jU ks).map Prod.snd:=by
 rw[<- vC hp hs,List.map_map]
 rfl
def KR (w':World) (r:Option (List (Int×List Int))) (e:Ending):Prop:=match r with
 |none=>e= .returned (.tuple #[.slice none 0 0,.bool false])
 |some ks=> ∃A,e= .returned (.tuple #[.slice A ((jU ks).map Prod.snd).length ((jU ks).map Prod.snd).length,.bool true])/\jC .i64 w' A ((jU ks).map Prod.snd)
def K2 (k0:Nat) (w':World) (r:Option (List (Int×List Int))) (e:Ending):Prop:=match r with
 |none=>e= .returned (.tuple #[.slice none 0 0,.bool false])
 |some ks=> ∃A,e= .returned (.tuple #[.slice A ((jU ks).map Prod.snd).length ((jU ks).map Prod.snd).length,.bool true])/\IX k0 w' A ((jU ks).map Prod.snd)
theorem yM.plain {k0:Nat} {w':World} {r:Option (List (Int×List Int))} {e:Ending} (h:yM k0 w' r e):KR w' r e/\K2 k0 w' r e:=by
 cases r with
 |none=>exact⟨h,h⟩
 |some ks=>
  obtain⟨L,hp,hs,A,he,hrd,hnew⟩:=h
  rw[oG hp hs]at hrd hnew
  have he2:e= .returned (.tuple #[.slice A ((jU ks).map Prod.snd).length ((jU ks).map Prod.snd).length,.bool true]):=by
   rw[<- oG hp hs];simpa using he
  exact⟨⟨A,he2,hrd⟩,A,he2,hnew⟩
theorem p7 (A B:Option Addr) (c d:Nat) (rows l:List (List Int)) (w:World) (hR:jC .i64 w A rows) (hl:jC .i64 w B l) (lr:rows.length<=9223372036854775807) (hc:rows.length<=c) (ll:l.length<=65536):
  Calls Tryz.prog 14 #[.slice A rows.length c,.slice B l.length d] w fun e w'=>KR w' (if ch rows then ic rows l else none) e/\Ext w w':=
 (tl A B c d rows l w hR hl lr hc ll).mono fun _ _ ⟨h1,h2⟩=>⟨h1.plain.1,h2⟩
theorem yf (A B:Option Addr) (c d:Nat) (a b:List (List Int)) (w:World) (ha:jC .i64 w A a) (hb:jC .i64 w B b) (la:a.length<=9223372036854775807) (lb:b.length<=9223372036854775807):
  Calls Tryz.prog 13 #[.slice A a.length c,.slice B b.length d] w fun e w'=>e= .returned (.bool (decide (a=b)))/\Ext w w':=by
 have HA:=Lib.hid ha
 have HB:=Lib.hid hb
 clear ha hb
 by_cases hl:a.length=b.length
 ·have hlb:((a.length:Int) !=(b.length:Int))=false:=by simp[hl]
  have HL:=Lib.hid hl
  have hle:a.length<=b.length:=by omega
  clear hl
  go_enter Tryz.func13,Tryz.ntmps13
  go_wp2_with fail
  clear hlb
  go_loopw [13,5] (fun i _ wr=> ∃k:Nat,k<=a.length/\i= .int .i64 k/\Hid (Ext w wr)/\Hid (∀j,j<k->a[j]?=b[j]?)) (fun i _ _=>a.length-(intOf i).toNat)
  case atStart=>exact⟨0,Nat.zero_le _,rfl,Lib.hid (Ext.refl _),Lib.hid (fun j h=>by omega)⟩
  case round=>
   obtain⟨k,hk,rfl,HE,HQ⟩:=hrel
   by_cases hlt:k<a.length
   ·obtain⟨x,hx⟩:=getElem?_of_lt hlt
    obtain⟨y,hy⟩:=getElem?_of_lt (l:=b) (k:=k) (by omega)
    obtain⟨b1,o1,B1,c1,rfl,hc1,hcl1,hlx,hr1⟩:=(HA.out.ext HE.out.drew).at_ hx
    obtain⟨b2,o2,B2,c2,rfl,hc2,hcl2,hly,hr2⟩:=(HB.out.ext HE.out.drew).at_ hy
    have HX:=Lib.hid hx
    have HY:=Lib.hid hy
    have HR1:=Lib.hid hr1
    have HR2:=Lib.hid hr2
    have HE1:=Lib.hid HE.out.drew
    have hkb:(k:Int)<(b.length:Int):=by omega
    clear hx hy hr1 hr2 HE
    go_wp2_with fail
    refine dV 8 (by kernel_rfl) (by kernel_rfl) ?_
    simp only[List.take_succ_cons,List.take_zero,List.drop_succ_cons,List.drop_zero]
    generalize wr.drew=w3 at*
    iterate 8 still_step
    refine wpStill_nil ?_
    have HC:=Lib.hid (mc B1 B2 c1 c2 x y w3 HR1.out HR2.out hlx hly)
    clear hc1 hc2
    by_cases h0:d6 x y=0
    ·have h0':(d6 x y !=0)=false:=by simp[h0]
     have H0:=Lib.hid h0
     clear h0
     go_wp2_with fail
     refine HC.out.mono ?_
     rintro e w4 ⟨rfl,n,rfl⟩
     go_wp2_with fail
     go_roundw
     case rel=>
      refine⟨k+1,by omega,by go_num,Lib.hid (HE1.out.drewN n),Lib.hid (fun j hj=>?_)⟩
      by_cases e:j=k
      ·subst e;rw[HX.out,HY.out,mG H0.out]
      ·exact HQ.out j (by omega)
     case measure=>simp[intOf];omega
    ·have h0':(d6 x y !=0)=true:=by simp[h0]
     go_wp2_with fail
     refine HC.out.mono ?_
     rintro e w4 ⟨rfl,n,rfl⟩
     go_wp2_with fail
     go_ret
     refine⟨fc (fun h=>?_),HE1.out.drewN n⟩
     subst h
     have h1:=HX.out
     rw[HY.out]at h1
     cases h1
     exact h0 (ir _)
   ·go_wp2_with fail
    go_ret
    refine⟨wn ?_,HE.out⟩
    apply List.ext_getElem?
    intro j
    rcases Nat.lt_or_ge j a.length with h|h
    ·exact HQ.out j (by omega)
    ·rw[List.getElem?_eq_none h,List.getElem?_eq_none (by have:=HL.out;omega)]
 ·have hlb:((a.length:Int) !=(b.length:Int))=true:=by simp;omega
  go_enter Tryz.func13,Tryz.ntmps13
  go_wp2_with fail
  go_ret
  exact⟨fc (fun h=>hl (by rw[h])),Ext.refl _⟩
theorem Bv {w:World} {b:Nat} {x y:Int} (h0:w.cell? ⟨b,0,none⟩=some (.int .i64 x)) (h1:w.cell? ⟨b,1,none⟩=some (.int .i64 y)):RdI .i64 w (some ⟨b,0,none⟩) [x,y]:=fun _=>⟨b,0,rfl,fun i u hu=>by
 match i,hu with
 |0,hu=>simp at hu;subst hu;exact h0
 |1,hu=>simp at hu;subst hu;exact h1⟩
theorem uR {w:World} {b:Nat} {x y z:Int} (h0:w.cell? ⟨b,0,none⟩=some (.int .i64 x)) (h1:w.cell? ⟨b,1,none⟩=some (.int .i64 y)) (h2:w.cell? ⟨b,2,none⟩=some (.int .i64 z)):RdI .i64 w (some ⟨b,0,none⟩) [x,y,z]:=fun _=>⟨b,0,rfl,fun i u hu=>by
 match i,hu with
 |0,hu=>simp at hu;subst hu;exact h0
 |1,hu=>simp at hu;subst hu;exact h1
 |2,hu=>simp at hu;subst hu;exact h2⟩
theorem i5 {w:World} {b:Nat} {x y:Int} (h0:w.cell? ⟨b,0,none⟩=some (.int .i64 x)) (h1:w.cell? ⟨b,1,none⟩=some (.int .i64 y)):Iu .i64 w (.slice (some ⟨b,0,none⟩) 2 2) [x,y]:=
 ⟨some ⟨b,0,none⟩,2,rfl,by simp,by simp,Bv h0 h1⟩
def sc:List (List Int):=[[2,1],[1,2]]
theorem CA:(if ch sc then ic sc [[-1,1],[0,2],[1,-1],[1,0]]else none)=some [(2,[1,-1]),(8,[0,2]),(2,[1,-1]),(2,[1,0])]:=by decide+kernel
theorem Et:(jU [(2,[1,-1]),(8,[0,2]),(2,[1,-1]),(2,[1,0])]).map Prod.snd=[[1,-1],[1,0],[0,2]]:=by decide+kernel
theorem Es:iP sc [1,-1] [1,-1]= .tuple #[.int .i64 2,.bool true]:=by
 unfold iP
 rw[if_pos (by decide+kernel)]
 rw[show fd [1,-1] (dO sc [1,-1]) [1,-1].length=2 from by decide+kernel]
 rfl
theorem Cz:jr [0,-3,1]=some [0,3,-1]:=by decide+kernel
theorem JK (w W:World) (A B:Option Addr) (hE:Ext w W) (h1:jC .i64 W A sc) (h2:jC .i64 W B [[-1,1],[0,2],[1,-1],[1,0]]):
  Calls Tryz.prog 14 #[.slice A 2 2,.slice B 4 4] W fun e w'=> ∃C,e= .returned (.tuple #[.slice C 3 3,.bool true])/\jC .i64 w' C [[1,-1],[1,0],[0,2]]/\jC .i64 w' A sc/\Ext w w':=by
 refine(p7 A B 2 4 sc _ W h1 h2 (by decide) (by decide) (by decide)).mono fun e w' ⟨hs,he⟩=>?_
 rw[CA]at hs
 obtain⟨C,hr,hrd⟩:=hs
 rw[Et]at hr hrd
 exact⟨C,hr,hrd,h1.ext he,hE.trans he⟩
theorem EU (w W:World) (A B C:Option Addr) (hE:Ext w W) (h1:jC .i64 W A sc) (h2:RdI .i64 W B [1,-1]) (h3:jC .i64 W C [[1,-1],[1,0],[0,2]]):
  Calls Tryz.prog 15 #[.slice A 2 2,.slice B 2 2] W fun e w'=>e= .returned (.tuple #[.int .i64 2,.bool true])/\jC .i64 w' C [[1,-1],[1,0],[0,2]]/\Ext w w':=by
 refine(ET A B 2 2 sc [1,-1] W h1 h2 (by decide) (by decide) (by decide)).mono fun e w' ⟨hs,he⟩=>?_
 rw[Es]at hs
 exact⟨hs,h3.ext he,hE.trans he⟩
theorem Ca (w W:World) (B C:Option Addr) (hE:Ext w W) (h2:RdI .i64 W B [0,-3,1]) (h3:jC .i64 W C [[1,-1],[1,0],[0,2]]):
  Calls Tryz.prog 16 #[.slice B 3 3] W fun e w'=> ∃D c,e= .returned (.tuple #[.slice D 3 c,.bool true])/\RdI .i64 w' D [0,3,-1]/\jC .i64 w' C [[1,-1],[1,0],[0,2]]/\Ext w w':=by
 refine(ia B 3 [0,-3,1] W h2 (by decide)).mono fun e w' ⟨hs,he⟩=>?_
 rw[Cz]at hs
 obtain⟨D,c,hr,_,hrd,_⟩:=hs
 exact⟨D,c,hr,hrd,h3.ext he,hE.trans he⟩
theorem Fx (w W:World) (A C D:Option Addr) (hE:Ext w W) (h1:jC .i64 W A [[1,-1],[1,0],[0,2]]) (h2:jC .i64 W C [[1,-1],[1,0],[0,2]]) (h3:RdI .i64 W D [0,3,-1]):
  Calls Tryz.prog 13 #[.slice A 3 3,.slice C 3 3] W fun e w'=>e= .returned (.bool true)/\RdI .i64 w' D [0,3,-1]/\Ext w w':=
 (yf A C 3 3 _ _ W h1 h2 (by decide) (by decide)).mono fun e w' ⟨hs,he⟩=>⟨by rw[hs];simp,h3.ext he,hE.trans he⟩
theorem xn (w W:World) (D E:Option Addr) (c:Nat) (hE:Ext w W) (h1:RdI .i64 W D [0,3,-1]) (h2:RdI .i64 W E [0,3,-1]):
  Calls Tryz.prog 17 #[.slice D 3 c,.slice E 3 3] W fun e w'=>e= .returned (.int .i64 0)/\Ext w w':=
 (mc D E c 3 _ _ W h1 h2 (by decide) (by decide)).mono fun e w' ⟨hs,n,hw⟩=>⟨by rw[hs,ir],by rw[hw];exact hE.drewN n⟩
theorem BZ (w:World):Calls Tryz.prog 5 #[] w fun e w'=>e= .returned (.bool true)/\Ext w w':=by
 go_enter Tryz.func5,Tryz.ntmps5
 go_wp2_with fail
 refine(JK w _ _ _ ?_ ?_ ?_).mono ?_
 ·repeat (first|exact Ext.refl _|refine Ext.alloc ?_ _)
 ·exact fun _=>⟨_,0,rfl,fun i r hr=>by
   match i,hr with
   |0,hr=>simp[sc]at hr;subst hr;exact⟨.slice (some ⟨w.heap.size,0,none⟩) 2 2,by go_simp,i5 (by go_simp) (by go_simp)⟩
   |1,hr=>simp[sc]at hr;subst hr;exact⟨.slice (some ⟨w.heap.size+1,0,none⟩) 2 2,by go_simp,i5 (by go_simp) (by go_simp)⟩⟩
 ·exact fun _=>⟨_,0,rfl,fun i r hr=>by
   match i,hr with
   |0,hr=>simp at hr;subst hr;exact⟨.slice (some ⟨w.heap.size+1+1+1,0,none⟩) 2 2,by go_simp,i5 (by go_simp) (by go_simp)⟩
   |1,hr=>simp at hr;subst hr;exact⟨.slice (some ⟨w.heap.size+1+1+1+1,0,none⟩) 2 2,by go_simp,i5 (by go_simp) (by go_simp)⟩
   |2,hr=>simp at hr;subst hr;exact⟨.slice (some ⟨w.heap.size+1+1+1+1+1,0,none⟩) 2 2,by go_simp,i5 (by go_simp) (by go_simp)⟩
   |3,hr=>simp at hr;subst hr;exact⟨.slice (some ⟨w.heap.size+1+1+1+1+1+1,0,none⟩) 2 2,by go_simp,i5 (by go_simp) (by go_simp)⟩⟩
 rintro e w1 ⟨C,rfl,hC,hH,he⟩
 have HC:=Lib.hid hC
 have HH:=Lib.hid hH
 have HE:=Lib.hid he
 clear hC hH he
 go_wp2_with fail
 refine(EU w _ _ _ C ?_ ?_ ?_ ?_).mono ?_
 ·exact HE.out.alloc _
 ·exact HH.out.ext ((Ext.refl _).alloc _)
 ·exact Bv (by go_simp) (by go_simp)
 ·exact HC.out.ext ((Ext.refl _).alloc _)
 rintro e w2 ⟨rfl,hC,he⟩
 have HC2:=Lib.hid hC
 have HE2:=Lib.hid he
 clear hC he HC HH HE
 go_wp2_with fail
 refine(Ca w _ _ C ?_ ?_ ?_).mono ?_
 ·exact HE2.out.alloc _
 ·exact uR (by go_simp) (by go_simp) (by go_simp)
 ·exact HC2.out.ext ((Ext.refl _).alloc _)
 rintro e w3 ⟨D,c,rfl,hD,hC,he⟩
 have HD:=Lib.hid hD
 have HC3:=Lib.hid hC
 have HE3:=Lib.hid he
 clear hC he hD HC2 HE2
 go_wp2_with fail
 refine(Fx w _ _ _ D ?_ ?_ ?_ ?_).mono ?_
 ·repeat (first|exact HE3.out|refine Ext.alloc ?_ _)
 ·exact HC3.out.ext (by repeat (first|exact Ext.refl _|refine Ext.alloc ?_ _))
 ·exact fun _=>⟨_,0,rfl,fun i r hr=>by
   match i,hr with
   |0,hr=>simp at hr;subst hr;exact⟨.slice (some ⟨w3.heap.size,0,none⟩) 2 2,by go_simp,i5 (by go_simp) (by go_simp)⟩
   |1,hr=>simp at hr;subst hr;exact⟨.slice (some ⟨w3.heap.size+1,0,none⟩) 2 2,by go_simp,i5 (by go_simp) (by go_simp)⟩
   |2,hr=>simp at hr;subst hr;exact⟨.slice (some ⟨w3.heap.size+1+1,0,none⟩) 2 2,by go_simp,i5 (by go_simp) (by go_simp)⟩⟩
 ·exact HD.out.ext (by repeat (first|exact Ext.refl _|refine Ext.alloc ?_ _))
 rintro e w4 ⟨rfl,hD,he⟩
 have HD4:=Lib.hid hD
 have HE4:=Lib.hid he
 clear he hD HC3 HE3 HD
 go_wp2_with fail
 refine(xn w _ D _ c ?_ ?_ ?_).mono ?_
 ·exact HE4.out.alloc _
 ·exact HD4.out.ext ((Ext.refl _).alloc _)
 ·exact uR (by go_simp) (by go_simp) (by go_simp)
 rintro e w5 ⟨rfl,he⟩
 have HE5:=Lib.hid he
 clear he HE4 HD4
 go_wp2_with fail
 go_ret
 exact⟨rfl,HE5.out⟩
theorem Gv:CallC Tryz.prog 5 [] ⟨[],.raw (.bool true)⟩:=by
 refine jb (by kernel_rfl) fun X w vs hX hvs ha=>?_
 obtain rfl:vs= #[]:=by
  apply Array.ext_getElem?
  intro j
  rw[Array.getElem?_eq_none (by simp at hvs;simp[hvs])];rfl
 exact(BZ w).mono fun e w' ⟨h1,h2⟩=>⟨_,h1,fun _ _ _=>o9 _,h2⟩
theorem CallC.law {P:Program} {f:FuncId} {args:List TV} {b:Bool} (h:CallC P f args ⟨[],.raw (.bool b)⟩) {w:World} {vs:Array Value} (hvs:vs.size=args.length)
  (ha: ∀(j:Nat) t,args[j]?=some t-> ∃v:Value,vs[j]?=some v/\t.rel (fun _ _=>none) (fun _=>[]) (fun _=>False) w v):Calls P f vs w fun e w'=>e= .returned (.bool b)/\Ext w w':=
 (h.calls hvs ha).mono fun e w' ⟨v,h1,⟨ρ,H,X,h2⟩,h3⟩=>⟨by rw[h1,lj h2],h3⟩
theorem rI {P:Program} {f:FuncId} {args:List TV} {r:TV} (hc:callable P f=true) (h: ∀(X:Nat->Prop) (w:World) (vs:Array Value),(∀b,X b->b<w.heap.size)->vs.size=args.length->
  (∀(j:Nat) t,args[j]?=some t-> ∃v:Value,vs[j]?=some v/\t.rel (fun _ _=>none) (fun _=>[]) X w v)->Calls P f vs w fun e w'=> ∃v,e= .returned v/\(∀ρ H Y,(∀b,Y b->b<w.heap.size)->r.rel ρ H Y w' v)/\Ext w w'):CallC P f args ⟨[],r⟩:=
 ⟨hc,fun X w vs hX hvs ha=>(h X w vs hX hvs ha).mono fun e w' ⟨v,h1,h2,h3⟩=>⟨v,h1,fun _ _=>none,A2 h3 hX,h2 _ _ _ (fun b hb=>by
  rcases hb with hb|⟨a,r,o,c,ho,hr⟩
  ·exact hX b hb
  ·cases hr)⟩⟩
section
theorem pj (c:Int) (F:Nat->Int): ∀k,lI (fun p=>c*F p) k=c*lI F k
 |0=>by simp[lI]
 |k+1=>by rw[lI,lI,pj c F k];grind
theorem FH (c:Int) (F:Nat->Int) (k:Nat):lI (fun p=>F p*c) k=lI F k*c:=by
 rw[Int.mul_comm,<- pj];exact dQ k fun p _=>Int.mul_comm _ _
theorem tg (F:Nat->Nat->Int) (m:Nat): ∀n,lI (fun i=>lI (F i) m) n=lI (fun j=>lI (fun i=>F i j) n) m
 |0=>by simp only[lI];exact(th m).symm
 |n+1=>by rw[lI,tg F m n,<- wE];rfl
def BF (n:Nat) (f:Nat->Nat->Int) (x y:Nat->Int):Int:=lI (fun i=>x i*lI (fun j=>f i j*y j) n) n
variable {n:Nat}
theorem Ds {f f':Nat->Nat->Int} {x x' y y':Nat->Int} (hf: ∀i j,i<n->j<n->f i j=f' i j) (hx: ∀i,i<n->x i=x' i) (hy: ∀i,i<n->y i=y' i):BF n f x y=BF n f' x' y':=
 dQ n fun i hi=>by rw[hx i hi,dQ n fun j hj=>by rw[hf i j hi hj,hy j hj]]
theorem IM {f:Nat->Nat->Int} (hs:SymF f n) (x y:Nat->Int):BF n f x y=BF n f y x:=by
 unfold BF
 rw[dQ n (G:=fun i=>lI (fun j=>x i*f i j*y j) n) (fun i _=>by rw[<- pj];exact dQ n fun j _=>by grind),
  dQ n (F:=fun i=>y i*_) (G:=fun i=>lI (fun j=>x j*f j i*y i) n) (fun i hi=>by rw[<- pj];exact dQ n fun j hj=>by rw[hs i hi j hj];grind)]
 exact tg _ _ _
end
theorem wb (M:List (List Int)):CallC Tryz.prog 34 [ck M] ⟨[],.raw (.bool (ch M))⟩:=by
 refine jb (by kernel_rfl) fun X w vs hX hvs ha=>?_
 obtain⟨v0,e0,r0⟩:=qI ha (j:=0) rfl
 obtain⟨A,c,rfl,hc,hl,hR⟩:=re r0
 obtain rfl:vs= #[.slice A M.length c]:=by
  apply Array.ext_getElem?
  intro j
  match j with
  |0=>exact e0
  |j+1=>rw[Array.getElem?_eq_none (by simp at hvs;omega)];rfl
 refine(gJ A c M w hR hl hc).mono fun e w' ⟨h1,h2⟩=>?_
 exact⟨_,h1,fun _ _ _=>o9 _,h2⟩
theorem Hh (n:Int) (x:List Int):CallC Tryz.prog 36 [.raw (.int .i64 n),qE x] ⟨[],.raw (.bool (FitB n x))⟩:=by
 refine jb (by kernel_rfl) fun X w vs hX hvs ha=>?_
 obtain⟨v0,e0,r0⟩:=qI ha (j:=0) rfl
 obtain⟨v1,e1,r1⟩:=qI ha (j:=1) rfl
 obtain rfl:=lj r0
 obtain⟨B,d,rfl,hd,hlx,hx⟩:=pa r1
 obtain rfl:vs= #[.int .i64 n,.slice B x.length d]:=by
  apply Array.ext_getElem?
  intro j
  match j with
  |0=>exact e0
  |1=>exact e1
  |j+2=>rw[Array.getElem?_eq_none (by simp at hvs;omega)];rfl
 refine(kk n B d x w hx hlx).mono fun e w' ⟨h1,h2⟩=>?_
 subst h2
 exact⟨_,h1,fun _ _ _=>o9 _,Ext.refl _⟩
theorem Aa (a b:List (List Int)):CallC Tryz.prog 13 [ck a,ck b] ⟨[],.raw (.bool (decide (a=b)))⟩:=by
 refine jb (by kernel_rfl) fun X w vs hX hvs ha=>?_
 obtain⟨v0,e0,r0⟩:=qI ha (j:=0) rfl
 obtain⟨v1,e1,r1⟩:=qI ha (j:=1) rfl
 obtain⟨A,c,rfl,hc,hl,hA⟩:=re r0
 obtain⟨B,d,rfl,hd,hlb,hB⟩:=re r1
 obtain rfl:vs= #[.slice A a.length c,.slice B b.length d]:=by
  apply Array.ext_getElem?
  intro j
  match j with
  |0=>exact e0
  |1=>exact e1
  |j+2=>rw[Array.getElem?_eq_none (by simp at hvs;omega)];rfl
 refine(yf A B c d a b w hA hB hl hlb).mono fun e w' ⟨h1,h2⟩=>?_
 exact⟨_,h1,fun _ _ _=>o9 _,h2⟩
theorem Fp {X:Nat->Prop} {w:World} {l:List Int} {b off c:Nat} (hX: ¬X b) (hb:b<w.heap.size) (hl:l.length<=c) (hm:l.length<=9223372036854775807) (h:RdI .i64 w (some ⟨b,off,none⟩) l):dy X w (.sl (ls fI l)) (.slice (some ⟨b,off,none⟩) l.length c):=by
 have hc: ∀(i:Nat) (z:Int),l[i]?=some z->w.cell? ⟨b,off+i,none⟩=some (.int .i64 z):=fun i z hz=>by
  cases l with
  |nil=>simp at hz
  |cons z0 l0=>
   obtain⟨b',off',h1,hc⟩:=h (by simp)
   injection h1 with h1
   injection h1 with h1 h2
   subst h1 h2
   exact hc i _ (by rw[List.getElem?_map,hz];rfl)
 have:=dy.sl (X:=X) (w:=w) b off 1 c (ls fI l) (fun i _=> .int .i64 (l.getD i 0)) hX hb (fun e he=>by
  obtain⟨z,_,rfl⟩:=List.mem_map.1 he
  rfl) (by rw[aR];exact hl) (by rw[aR];exact hm) (fun i e j x he hx=>by
  rw[bG]at he
  obtain⟨z,hz,rfl⟩:=Option.map_eq_some_iff.1 he
  cases j with
  |succ j=>simp[fI]at hx
  |zero=>
   simp only[Nat.mul_one,Nat.add_zero,List.getD_eq_getElem?_getD,hz,Option.getD_some]
   exact hc i z hz) (fun i e j x he hx=>by
  rw[bG]at he
  obtain⟨z,hz,rfl⟩:=Option.map_eq_some_iff.1 he
  cases j with
  |succ j=>simp[fI]at hx
  |zero=>
   simp[fI]at hx
   subst hx
   simp only[List.getD_eq_getElem?_getD,hz,Option.getD_some]
   exact dy.raw _ rfl)
 rw[aR]at this
 exact this
theorem Fd (M:List (List Int)) (x:List Int) (hM:ch M=true) (hx:FitB M.length x=true):CallC Tryz.prog 38 [ck M,qE x] ⟨[],qE (dO M x)⟩:=by
 refine rI (by kernel_rfl) fun X w vs hX hvs ha=>?_
 obtain⟨v0,e0,r0⟩:=qI ha (j:=0) rfl
 obtain⟨v1,e1,r1⟩:=qI ha (j:=1) rfl
 obtain⟨A,c,rfl,hc,hl,hR⟩:=re r0
 obtain⟨B,d,rfl,hd,hlx,hrx⟩:=pa r1
 obtain rfl:vs= #[.slice A M.length c,.slice B x.length d]:=by
  apply Array.ext_getElem?
  intro j
  match j with
  |0=>exact e0
  |1=>exact e1
  |j+2=>rw[Array.getElem?_eq_none (by simp at hvs;omega)];rfl
 have hs:=ee hM
 obtain⟨hxl,hxb⟩:=fY.1 hx
 have h8:M.length<=8:=hs.2.1
 have h1:1<=M.length:=hs.1
 refine(pB A B c d M x w hR hrx (by omega) (fun i hi=>by rw[hs.2.2.1 i hi];omega) hlx).mono fun e w' ⟨h1,h2,h3⟩=>?_
 refine⟨_,h1,fun ρ H Y hY=>?_,h3⟩
 have hlen:=iB M x
 have hb:w.heap.size<w'.heap.size:=by
  obtain⟨b,off,h4,h5⟩:=h2 (by intro h;rw[List.map_eq_nil_iff]at h;rw[h]at hlen;simp at hlen;omega)
  injection h4 with h4
  injection h4 with h4 h6
  subst h4 h6
  cases hz:(dO M x)[0]? with
  |none=>rw[List.getElem?_eq_none_iff]at hz;omega
  |some z=>exact kO (h5 0 _ (by rw[List.getElem?_map,hz];rfl))
 have:=Fp (X:=Y) (c:=M.length) (fun h=>absurd (hY _ h) (by omega)) hb (by omega) (by omega) h2
 rw[hlen]at this
 exact this
theorem Jz (M:List (List Int)) (x y:List Int) (hM:ch M=true) (hx:FitB M.length x=true) (hy:FitB M.length y=true):CallC Tryz.prog 37 [qE x,qE (dO M y)] ⟨[],Ky (fd x (dO M y) x.length)⟩:=by
 refine jb (by kernel_rfl) fun X w vs hX hvs ha=>?_
 obtain⟨v0,e0,r0⟩:=qI ha (j:=0) rfl
 obtain⟨v1,e1,r1⟩:=qI ha (j:=1) rfl
 obtain⟨A,c,rfl,hc,hl,hrx⟩:=pa r0
 obtain⟨B,d,rfl,hd,hly,hry⟩:=pa r1
 obtain rfl:vs= #[.slice A x.length c,.slice B (dO M y).length d]:=by
  apply Array.ext_getElem?
  intro j
  match j with
  |0=>exact e0
  |1=>exact e1
  |j+2=>rw[Array.getElem?_eq_none (by simp at hvs;omega)];rfl
 have hs:=ee hM
 obtain⟨hxl,hxb⟩:=fY.1 hx
 obtain⟨hyl,hyb⟩:=fY.1 hy
 have h8:M.length<=8:=hs.2.1
 have hlen:=iB M y
 refine(vH A B c d x (dO M y) w hrx hry (by omega) (by omega) hly (fun i z hz=>iq hxb hz) (pA hs hyb)).mono fun e w' ⟨h1,h2⟩=>?_
 refine⟨_,h1,fun ρ H Y=>?_,h2⟩
 unfold Ky oI
 split
 ·exact Bx _ _
 ·exact Bx _ _
/-! The plain side of Gram. -/
def vG (M l:List (List Int)) (i j:Nat):Int:=fd (l.getD i []) (dO M (l.getD j [])) (l.getD i []).length
structure PG (M l:List (List Int)) (i j:Nat):Prop where
 x:FitB M.length (l.getD i [])=true
 y:FitB M.length (l.getD j [])=true
 lo: -4611686018427387904<=vG M l i j
 hi:vG M l i j<=4611686018427387904
def JQ (M l:List (List Int)):Prop:=ch M=true/\ ∀i,i<l.length-> ∀j,j<l.length->PG M l i j
theorem zA {M:List (List Int)} {x y:List Int} (hM:ch M=true) (hx:FitB M.length x=true) (hy:FitB M.length y=true):
  fd x (dO M y) x.length=BF M.length (ent M) (fun i=>x.getD i 0) (fun i=>y.getD i 0):=by
 obtain⟨h1,h8,hsq,hr⟩:=(ib M).1 hM
 obtain⟨hxl,hxb⟩:=fY.1 hx
 obtain⟨hyl,hyb⟩:=fY.1 hy
 generalize hn:M.length=n at*
 have eM:M=cd n n (ent M):=by
  apply List.ext_getElem?
  intro i
  by_cases hi:i<n
  ·rw[cS _ _ hi]
   obtain⟨r,hr'⟩:=getElem?_of_lt (show i<M.length by omega)
   rw[hr']
   have hrl:r.length=n:=by
    have:=hsq i (by omega)
    rw[List.getD_eq_getElem?_getD,hr']at this
    simpa[hn] using this
   refine congrArg some ?_
   apply List.ext_getElem?
   intro j
   by_cases hj:j<n
   ·rw[bK _ hj]
    obtain⟨z,hz⟩:=getElem?_of_lt (show j<r.length by omega)
    rw[hz]
    simp[ent,List.getD_eq_getElem?_getD,hr',hz]
   ·rw[List.getElem?_eq_none (by omega),List.getElem?_eq_none (by rw[cq];omega)]
  ·rw[List.getElem?_eq_none (by omega),List.getElem?_eq_none (by rw[bQ];omega)]
 have er: ∀(x:List Int),x.length=n->x=de n (fun i=>x.getD i 0):=fun x hxl=>by
  apply List.ext_getElem?
  intro j
  by_cases hj:j<n
  ·rw[bK _ hj]
   obtain⟨z,hz⟩:=getElem?_of_lt (show j<x.length by omega)
   simp[List.getD_eq_getElem?_getD,hz]
  ·rw[List.getElem?_eq_none (by omega),List.getElem?_eq_none (by rw[cq];omega)]
 have hM2:ch (cd n n (ent M))=true:=by rw[<- eM];exact hM
 have ex:=er x hxl
 have ey:=er y hyl
 rw[show dO M y=KI n n (ent M) y by rw[<- yX hM2 hyb,<- eM],hxl,KI]
 generalize(fun i=>x.getD i 0)=fx at*
 generalize(fun i=>y.getD i 0)=fy at*
 rw[ex,ey,oC _ _ n (Nat.le_refl _)]
 exact dQ n fun i _=>by rw[oC _ _ n (Nat.le_refl _)]
theorem FY {M l:List (List Int)} {i j:Nat} (hM:ch M=true) (hi:FitB M.length (l.getD i [])=true) (hj:FitB M.length (l.getD j [])=true):vG M l i j=vG M l j i:=by
 unfold vG
 rw[zA hM hi hj,zA hM hj hi]
 obtain⟨h1,h8,hsq,hr⟩:=(ib M).1 hM
 exact IM hr.1 _ _
theorem JE {P:Program} {fn:Func} {s:AS} {r:TV} (k:Nat) (hk:s.tmps[k]?=some (.raw (.slice none 0 0))) (hd:s.H 1000=[]) (h:bE P ⟨s.tmps.set k (.one (.p (.sl []))),s.H⟩ fn.results.toList=some r) (hp:noRefTV r=true): ∃s',dG s s'/\ql P fn ⟨[],r⟩ s':=
 ⟨_,Gq k hk,pc hd h hp⟩
theorem Fv (k:Nat->Nat->Bool) (R:List (List Int)):(R.map rh).map (d7 k)=R.map rh:=by
 rw[List.map_map]
 exact List.map_congr_left fun r _=>by simp[d7,rh,em]
def JS (d n c:Nat) (f:Nat->Nat->Int) (i j:Nat):List OObj:=⟨35,1,gY d (List.replicate i c)++[.sl d (i+1) 0 (j+1)]::List.replicate (n-i-1) n4⟩::((cd i c f).map rh++[rh (de (j+1) (f i))])
def Kw (d n c:Nat) (f:Nat->Nat->Int) (i:Nat):Nat->List OObj
 |0=>kI d n c i f
 |j+1=>JS d n c f i j
theorem Jo {d n c i:Nat} (f:Nat->Nat->Int) (hc:1<=c) (hi:i<n):Kw d n c f i c=kI d n c (i+1) f:=by
 obtain⟨j,rfl⟩: ∃j,c=j+1:=⟨c-1,by omega⟩
 show JS d n (j+1) f i j=_
 unfold JS kI
 rw[sk,List.replicate_succ' (n:=i),mm,List.length_replicate]
 simp[Nat.sub_sub]
theorem GV {d n c i:Nat} (f:Nat->Nat->Int) (hi:i<n):kI d n c i f=⟨35,1,gY d (List.replicate i c)++n4::List.replicate (n-i-1) n4⟩::(cd i c f).map rh:=by
 unfold kI
 rw[show n-i=n-i-1+1 by omega,List.replicate_succ];rfl
structure Ir (n:Nat) (p:Nat->Prop) where
 i:Nat
 hi:i<=n
 h: ∀a,a<i->p a
theorem vL {l:List (List Int)} {i:Nat} (h:i<l.length):l[i]?=some (l.getD i []):=by
 obtain⟨x,hx⟩:=getElem?_of_lt h
 rw[List.getD_eq_getElem?_getD,hx];rfl
def zt (f:Nat->Nat->Int) (i j:Nat):Nat->Nat->Int:=fun a b=>if(a<i/\b<i)\/(a=i/\b<j)\/(b=i/\a<j)then f a b else 0
theorem En {f:Nat->Nat->Int} {i j:Nat} {v:Int} (h1:f i j=v) (h2:f j i=v) (a b:Nat):upd (upd (zt f i j) i j v) j i v a b=zt f i (j+1) a b:=by
 by_cases c1:a=j/\b=i
 ·obtain⟨rfl,rfl⟩:=c1
  rw[wM,<- h2]
  exact(if_pos (.inr (.inr ⟨rfl,by omega⟩))).symm
 ·rw[mw (by omega)]
  by_cases c2:a=i/\b=j
  ·obtain⟨rfl,rfl⟩:=c2
   rw[wM,<- h1]
   exact(if_pos (.inr (.inl ⟨rfl,by omega⟩))).symm
  ·rw[mw (by omega)]
   unfold zt
   have:((a<i/\b<i)\/(a=i/\b<j)\/(b=i/\a<j))↔((a<i/\b<i)\/(a=i/\b<j+1)\/(b=i/\a<j+1)):=by omega
   simp only[this]
theorem GU (f:Nat->Nat->Int) (i a b:Nat):zt f i (i+1) a b=zt f (i+1) 0 a b:=by
 unfold zt
 have:((a<i/\b<i)\/(a=i/\b<i+1)\/(b=i/\a<i+1))↔((a<i+1/\b<i+1)\/(a=i+1/\b<0)\/(b=i+1/\a<0)):=by omega
 simp only[this]
theorem GT {f:Nat->Nat->Int} {n a b:Nat} (ha:a<n) (hb:b<n):zt f n 0 a b=f a b:=if_pos (.inl ⟨ha,hb⟩)
theorem Eo (f:Nat->Nat->Int) (a b:Nat):zt f 0 0 a b=0:=if_neg (by omega)
end Go.Proofs.YtpgghglbpcabkaaGreat
