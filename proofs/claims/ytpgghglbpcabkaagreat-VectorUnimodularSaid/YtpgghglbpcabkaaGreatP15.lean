/-
  Part 16 of a proof (walks and plain facts).
-/
import Derived.Test.YtpgghglbpcabkaaGreatP14
import Derived.Shelf.SlSortCmp.WholeK
import Derived.Ground.SlsfProg
import Derived.Test.YtpgghglbpcabkaaGreatProg
import Derived.Deep.RegionHeld3
import Derived.Deep.RegionLaw
import Derived.Laws.EntriesVeiled
set_option linter.all false
set_option maxRecDepth 100000
set_option maxHeartbeats 64000000
namespace Go.Proofs.YtpgghglbpcabkaaGreat
open Go.RowKit
theorem E6 (x:Nat) (h:x<4294967296):CallC Tryz.prog 147 [.raw (.int .u32 (x:Int))] ⟨[],.raw (.int .i64 (lz x:Int))⟩:=by
 refine qB (by kernel_rfl) fun X w vs hX hvs ha=>?_
 obtain⟨v0,e0,r0⟩:=D6 ha (j:=0) rfl
 obtain⟨rfl,_⟩:=cW (ρ:=fun _ _=>none) (H:=fun _=>[]) r0
 obtain rfl:vs= #[.int .u32 (x:Int)]:=by
  apply Array.ext_getElem?
  intro j
  match j with
  |0=>exact e0
  |j+1=>rw[Array.getElem?_eq_none (by simp at hvs;omega)];rfl
 have hb:=Lib.bitLen_le x 32 (by omega) (by simpa using h)
 have e:(32-(Lib.bitLen (x:Int).toNat:Int))=(lz x:Int):=by rw[Int.toNat_natCast];unfold lz;omega
 have:=Any.bits_LeadingZeros32 Tryz.lays133 (x:Int) w (by omega) (by omega)
 rw[e]at this
 exact this.mono fun e w' ⟨h1,h2⟩=>⟨_,h1,fun ρ H Y=>eE rfl,by rw[h2];exact Ext.refl _⟩
theorem xF {P:Program} {f:FuncId} {args:List TV} {l:List Nat} (hl:0<l.length) (hc:callable P f=true) (h: ∀(X:Nat->Prop) (w:World) (vs:Array Value),(∀b,X b->b<w.heap.size)->vs.size=args.length->
  (∀(j:Nat) t,args[j]?=some t-> ∃v:Value,vs[j]?=some v/\t.rel (fun _ _=>none) (fun _=>[]) X w v)->Calls P f vs w fun e w'=> ∃v,e= .returned v/\w'.ownsRow w.heap.size 118 1 v l.length ((l.map fun n:Nat=>(n:Int)).map (Value.int .u32))/\Ext w w'):CallC P f args ⟨[⟨118,1,lc fU l⟩],.one (.sl 0 0 0 l.length)⟩:=
 ⟨hc,fun X w vs hX hvs ha=>(h X w vs hX hvs ha).mono fun e w' ⟨v,h1,⟨_,h2⟩,h3⟩=>by
  rcases h2 with⟨_,hn⟩|⟨g,cap,cur,hv,hg,hh,hnc,hm2,hs,ht⟩
  ·omega
  have hr:rho1 g cap 0 0=some (g,cap):=by simp[rho1]
  have hcell: ∀(i:Nat) z,l[i]?=some z->cur[i]?=some (.int .u32 (z:Int)):=fun i z hz=>by
   have h3:((l.map fun n:Nat=>(n:Int)).map (Value.int .u32))[i]?=some (.int .u32 (z:Int)):=by rw[List.getElem?_map,List.getElem?_map,hz];rfl
   rw[<- ht,List.getElem?_take]at h3
   split at h3
   ·simpa using h3
   ·cases h3
  refine⟨v,h1,rho1 g cap,⟨tY h3,fun a r o ho=>?_,fun a r a' r' o o' b c c' ho ho' _ _=>?_,fun a r o b c ho hb=>?_,fun b hb=>Nat.lt_of_lt_of_le (hX b hb) h3.size,fun a r o ho=>?_⟩,?_⟩
  ·obtain⟨rfl,rfl,rfl⟩:=nj ho
   refine⟨fun e he=>?_,Nat.zero_lt_one,?_⟩
   ·obtain⟨z,_,rfl⟩:=List.mem_map.1 he
    rfl
   ·rw[hr]
    refine⟨cur,hh,hs,by rw[fu];exact hnc,hm2,fun i e j x he hx=>?_⟩
    simp only at he
    rw[b8]at he
    obtain⟨z,hz,rfl⟩:=Option.map_eq_some_iff.1 he
    cases j with
    |succ j=>simp[fU]at hx
    |zero=>
     simp[fU]at hx
     subst hx
     exact⟨.int .u32 (z:Int),by rw[Nat.mul_one,Nat.add_zero];exact hcell i z hz,rfl,cO.raw _ rfl⟩
  ·obtain⟨rfl,rfl,_⟩:=nj ho
   obtain⟨rfl,rfl,_⟩:=nj ho'
   exact⟨rfl,rfl⟩
  ·obtain⟨rfl,rfl,_⟩:=nj ho
   rw[hr]at hb
   injection hb with hb
   injection hb with hb _
   subst hb
   exact⟨.inl hg,fun hX'=>absurd (hX _ hX') (by omega)⟩
  ·obtain⟨rfl,rfl,rfl⟩:=nj ho
   exact dx (dX _ _)
  ·exact⟨_,rfl,by simp[fu],.inr ⟨g,cap,hr,by rw[hv];simp⟩⟩⟩
theorem xN (l:List Nat) (h0:0<l.length) (hl:l.length<=1073741824):CallC Tryz.prog 123 [bO l] ⟨[⟨118,1,lc fU l⟩],.one (.sl 0 0 0 l.length)⟩:=by
 refine xF h0 (by kernel_rfl) fun X w vs hX hvs ha=>?_
 obtain⟨v0,e0,r0⟩:=D6 ha (j:=0) rfl
 obtain⟨A,c,rfl,hc,hR⟩:=wt r0
 obtain rfl:vs= #[.slice A l.length c]:=by
  apply Array.ext_getElem?
  intro j
  match j with
  |0=>exact e0
  |j+1=>rw[Array.getElem?_eq_none (by simp at hvs;omega)];rfl
 have hlen:(l.map fun n:Nat=>(n:Int)).length=l.length:=List.length_map _
 have:=nX A c (l.map fun n:Nat=>(n:Int)) w hR (by rw[hlen];omega)
 rw[hlen]at this
 exact this
theorem fD: ∀x:List Int,dt x x=0
 |[]=>rfl
 |a::x=>by simp[dt,fD x]
theorem jY: ∀{x y:List Int},dt x y=0->x=y
 |[],[],_=>rfl
 |[],_::_,h=>by simp[dt]at h
 |_::_,[],h=>by simp[dt]at h
 |a::x,b::y,h=>by
  unfold dt at h
  split at h
  ·omega
  ·split at h
   ·omega
   ·rw[jY h,show a=b from by omega]
theorem i7: ∀(x y:List Int),dt x y= -1\/dt x y=0\/dt x y=1
 |[],[]=>by simp[dt]
 |[],_::_=>by simp[dt]
 |_::_,[]=>by simp[dt]
 |a::x,b::y=>by
  have:=i7 x y
  unfold dt
  split
  ·simp
  ·split
   ·simp
   ·exact this
theorem iC: ∀(x y:List Int),dt y x= - dt x y
 |[],[]=>by simp[dt]
 |[],_::_=>by simp[dt]
 |_::_,[]=>by simp[dt]
 |a::x,b::y=>by
  have:=iC x y
  unfold dt
  by_cases h1:a<b
  ·rw[if_pos h1,if_neg (by omega),if_pos h1];rfl
  ·by_cases h2:b<a
   ·rw[if_pos h2,if_neg h1,if_pos h2]
   ·rw[if_neg h2,if_neg h1,if_neg h1,if_neg h2,this]
theorem jd: ∀{x y z:List Int},dt x y<0->dt y z<0->dt x z<0
 |[],[],_,h,_=>by simp[dt]at h
 |_::_,[],_,h,_=>by simp[dt]at h
 |[],_::_,[],_,h=>by simp[dt]at h
 |[],_::_,_::_,_,_=>by simp[dt]
 |_::_,_::_,[],_,h=>by simp[dt]at h
 |a::x,b::y,c::z,h1,h2=>by
  unfold dt at h1 h2⊢
  by_cases p1:a<b
  ·by_cases p2:b<c
   ·rw[if_pos (by omega)];omega
   ·rw[if_neg p2]at h2
    by_cases p3:c<b
    ·rw[if_pos p3]at h2;omega
    ·rw[if_pos (by omega)];omega
  ·rw[if_neg p1]at h1
   by_cases p3:b<a
   ·rw[if_pos p3]at h1;omega
   ·rw[if_neg p3]at h1
    by_cases p2:b<c
    ·rw[if_pos (by omega)];omega
    ·rw[if_neg p2]at h2
     by_cases p4:c<b
     ·rw[if_pos p4]at h2;omega
     ·rw[if_neg p4]at h2
      rw[if_neg (by omega),if_neg (by omega)]
      exact jd h1 h2
theorem wu (k1:Int) (x:List Int) (k2:Int) (y:List Int):yy k1 x k2 y=if k1<k2 then -1 else if k2<k1 then 1 else dt x y:=by
 have hr:=i7 x y
 unfold yy BP BP BP kF
 by_cases h1:k1<k2
 ·simp[h1]
 ·by_cases h2:k2<k1
  ·simp[h1,h2]
  ·simp[h1,h2]
   intro h;exact h.symm
theorem rI {k1 k2:Int} {x y:List Int}:yy k1 x k2 y<0↔k1<k2\/k1=k2/\dt x y<0:=by
 rw[wu]
 by_cases h1:k1<k2
 ·rw[if_pos h1];omega
 ·by_cases h2:k2<k1
  ·rw[if_neg h1,if_pos h2];omega
  ·rw[if_neg h1,if_neg h2];omega
theorem yw {k1 k2:Int} {x y:List Int}:yy k1 x k2 y=0↔k1=k2/\x=y:=by
 rw[wu]
 by_cases h1:k1<k2
 ·rw[if_pos h1];omega
 ·by_cases h2:k2<k1
  ·rw[if_neg h1,if_pos h2];omega
  ·rw[if_neg h1,if_neg h2]
   constructor
   ·intro h;exact⟨by omega,jY h⟩
   ·rintro⟨_,rfl⟩;exact fD _
theorem oV {α:Type} (f:α->NItem) (x y:α):ltOf (fun a b=>fA (f a) (f b)) x y=true↔(f x).key<(f y).key\/(f x).key=(f y).key/\dt (f x).vals (f y).vals<0:=by
 unfold ltOf fA
 rw[decide_eq_true_iff,rI]
theorem EC {α:Type} (f:α->NItem):Sort.SWO (ltOf fun a b=>fA (f a) (f b)) where
 irrefl x:=by
  rw[<- Bool.not_eq_true,oV,fD];omega
 trans x y z h1 h2:=by
  rw[oV]at*
  rcases h1 with h1|⟨h1,h1'⟩<;>rcases h2 with h2|⟨h2,h2'⟩
  ·omega
  ·omega
  ·omega
  ·exact .inr ⟨by omega,jd h1' h2'⟩
 ntrans x y z h1 h2:=by
  rw[<- Bool.not_eq_true,oV]at*
  intro h3
  rcases h3 with h3|⟨h3,h3'⟩
  ·by_cases e1:(f x).key<(f y).key
   ·exact h1 (.inl e1)
   ·exact h2 (.inl (by omega))
  ·by_cases e1:(f x).key<(f y).key
   ·exact h1 (.inl e1)
   ·by_cases e2:(f y).key<(f z).key
    ·exact h2 (.inl e2)
    ·have q1: ¬dt (f x).vals (f y).vals<0:=fun h=>h1 (.inr ⟨by omega,h⟩)
     have q2: ¬dt (f y).vals (f z).vals<0:=fun h=>h2 (.inr ⟨by omega,h⟩)
     have a1:=iC (f x).vals (f y).vals
     have a2:=iC (f y).vals (f z).vals
     rcases i7 (f x).vals (f y).vals with r|r|r
     ·omega
     ·rw[jY r]at h3';exact q2 h3'
     ·rcases i7 (f y).vals (f z).vals with s|s|s
      ·omega
      ·rw[<- jY s]at h3';exact q1 h3'
      ·have:=jd (x:=(f z).vals) (y:=(f y).vals) (z:=(f x).vals) (by omega) (by omega)
       have a3:=iC (f x).vals (f z).vals
       omega
end Go.Proofs.YtpgghglbpcabkaaGreat
namespace Go.Proofs
open Go.Shelf
def Tryz.sortK_ren:Go.Shelf.Ren:=⟨fun|6=>79|15=>117|14=>116|28=>143|29=>144|20=>135|21=>136|22=>137|23=>138|24=>139|25=>140|26=>141|27=>142|46=>156|47=>157|48=>158|49=>159|50=>160|57=>164|n=>n,fun|22=>67|24=>74|25=>66|3=>3|39=>140|0=>0|53=>118|55=>88|4=>4|46=>153|45=>152|50=>120|5=>5|9=>9|66=>167|70=>171|76=>174|77=>175|n=>n,fun|n=>n⟩
theorem Tryz.sortK:Go.Proofs.SlLaysF0.n6 Tryz.prog Tryz.sortK_ren:={
 mixed:=by kernel_rfl
 f6:=⟨Tryz.f79.name,by decide,Tryz.func79.trans (congrArg some (by kernel_rfl))⟩
 f14:=⟨Tryz.f116.name,by decide,Tryz.func116.trans (congrArg some (by kernel_rfl))⟩
 f15:=Tryz.func117.trans (congrArg some (by kernel_rfl))
 f20:=⟨Tryz.f135.name,by decide,Tryz.func135.trans (congrArg some (by kernel_rfl))⟩
 f21:=⟨Tryz.f136.name,by decide,Tryz.func136.trans (congrArg some (by kernel_rfl))⟩
 f22:=⟨Tryz.f137.name,by decide,Tryz.func137.trans (congrArg some (by kernel_rfl))⟩
 f23:=⟨Tryz.f138.name,by decide,Tryz.func138.trans (congrArg some (by kernel_rfl))⟩
 f24:=⟨Tryz.f139.name,by decide,Tryz.func139.trans (congrArg some (by kernel_rfl))⟩
 f25:=⟨Tryz.f140.name,by decide,Tryz.func140.trans (congrArg some (by kernel_rfl))⟩
 f26:=⟨Tryz.f141.name,by decide,Tryz.func141.trans (congrArg some (by kernel_rfl))⟩
 f27:=⟨Tryz.f142.name,by decide,Tryz.func142.trans (congrArg some (by kernel_rfl))⟩
 f28:=Tryz.func143.trans (congrArg some (by kernel_rfl))
 f29:=Tryz.func144.trans (congrArg some (by kernel_rfl))
 f46:=⟨Tryz.f156.name,by decide,Tryz.func156.trans (congrArg some (by kernel_rfl))⟩
 f47:=Tryz.func157.trans (congrArg some (by kernel_rfl))
 f48:=Tryz.func158.trans (congrArg some (by kernel_rfl))
 f49:=⟨Tryz.f159.name,by decide,Tryz.func159.trans (congrArg some (by kernel_rfl))⟩
 f50:=⟨Tryz.f160.name,by decide,Tryz.func160.trans (congrArg some (by kernel_rfl))⟩
 f57:=⟨Tryz.f164.name,by decide,Tryz.func164.trans (congrArg some (by kernel_rfl))⟩
 t0:=Tryz.underlying0
 a0:=Tryz.isAgg0
 z0:=Tryz.sizeOf0
 v0:=Tryz.zeroValue0
 t3:=Tryz.underlying3
 a3:=Tryz.isAgg3
 z3:=Tryz.sizeOf3
 v3:=Tryz.zeroValue3
 t4:=Tryz.underlying4
 a4:=Tryz.isAgg4
 z4:=Tryz.sizeOf4
 v4:=Tryz.zeroValue4
 t5:=Tryz.underlying5
 a5:=Tryz.isAgg5
 z5:=Tryz.sizeOf5
 v5:=Tryz.zeroValue5
 t9:=Tryz.underlying9
 a9:=Tryz.isAgg9
 z9:=Tryz.sizeOf9
 v9:=Tryz.zeroValue9
 t22:=Tryz.underlying67
 a22:=Tryz.isAgg67
 z22:=Tryz.sizeOf67
 v22:=Tryz.zeroValue67
 t25:=Tryz.underlying66
 a25:=Tryz.isAgg66
 z25:=Tryz.sizeOf66
 v25:=Tryz.zeroValue66
 t39:=Tryz.underlying140
 a39:=Tryz.isAgg140
 z39:=Tryz.sizeOf140
 v39:=Tryz.zeroValue140
 t45:=Tryz.underlying152
 a45:=Tryz.isAgg152
 z45:=Tryz.sizeOf152
 v45:=Tryz.zeroValue152
 t46:=Tryz.underlying153
 a46:=Tryz.isAgg153
 z46:=Tryz.sizeOf153
 v46:=Tryz.zeroValue153
 t50:=Tryz.underlying120
 a50:=Tryz.isAgg120
 z50:=Tryz.sizeOf120
 v50:=Tryz.zeroValue120
 t53:=Tryz.underlying118
 a53:=Tryz.isAgg118
 z53:=Tryz.sizeOf118
 v53:=Tryz.zeroValue118
 t55:=Tryz.underlying88
 a55:=Tryz.isAgg88
 z55:=Tryz.sizeOf88
 v55:=Tryz.zeroValue88
 t66:=Tryz.underlying167
 a66:=Tryz.isAgg167
 z66:=Tryz.sizeOf167
 v66:=Tryz.zeroValue167
 t70:=Tryz.underlying171
 a70:=Tryz.isAgg171
 z70:=Tryz.sizeOf171
 v70:=Tryz.zeroValue171
 t76:=Tryz.underlying174
 a76:=Tryz.isAgg174
 z76:=Tryz.sizeOf174
 v76:=Tryz.zeroValue174
 t77:=Tryz.underlying175
 a77:=Tryz.isAgg175
 z77:=Tryz.sizeOf175
 v77:=Tryz.zeroValue175}
end Go.Proofs
namespace Go.Proofs.YtpgghglbpcabkaaGreat
open Go.RowKit
section
open Go.Sort (flatK putRowK HoldsK get_flatK size_flatK)
def iN (it:NItem):List Value:=[.int .i64 it.key,.slice it.at_ it.vals.length it.cap]
theorem rh {w:World} {g t N:Nat} {f:Nat->Value} (h:w.rowIs g t N f) (d:Array Value):(Sort.putRow id w g 0 d).rowIs g t N (fun k=>if k<d.size then d[k]! else f k):=by
 obtain⟨c,hb,hn,hc⟩:=h
 refine⟨Sort.putCells id 0 d c,?_,by simp[Sort.putCells,hn],fun i hi=>?_⟩
 ·simp[Sort.putRow,Sort.mapBlock,Array.getElem?_modify,hb,Sort.onCells]
 ·simp[Sort.putCells,hc i hi]
theorem r6 (w:World) (g:Nat) (d:Array Value) (k:Nat) (hk:k≠g):(Sort.putRow id w g 0 d).heap[k]?=w.heap[k]?:=by
 simp[Sort.putRow,Sort.mapBlock,Array.getElem?_modify,Ne.symm hk]
theorem mX (w:World) (g:Nat) (d:Array Value):(Sort.putRow id w g 0 d).heap.size=w.heap.size:=by
 simp[Sort.putRow,Sort.mapBlock]
section
variable {α:Type} [Inhabited α] (enc:α->List Value) (w:World) (g n:Nat) (d:Array α) (os:Array Obj)
theorem um:w.grownBy (sortWorldK enc 2 w g 0 n d os) (some g):=by
 unfold sortWorldK putRowK
 refine⟨rfl,rfl,rfl,?_,fun k hk hne=>?_⟩
 ·show w.heap.size<=((Sort.putRow id (Sort.ahead w n) g 0 _).heap++os).size
  rw[Array.size_append,mX]
  exact Nat.le_add_right _ _
 ·show((Sort.putRow id (Sort.ahead w n) g 0 _).heap++os)[k]?=w.heap[k]?
  rw[Array.getElem?_append_left (by rw[mX];exact hk),r6 _ _ _ _ (fun e=>hne (by rw[e]))]
  rfl
theorem yT {t N:Nat} {f:Nat->Value} (h:w.rowIs g t N f):(sortWorldK enc 2 w g 0 n d os).rowIs g t N (fun k=>if k<(flatK enc 2 d).size then(flatK enc 2 d)[k]! else f k):=by
 have h1:=rh (w:=Sort.ahead w n) h (flatK enc 2 d)
 refine h1.of_block ?_
 unfold sortWorldK putRowK
 show((Sort.putRow id (Sort.ahead w n) g 0 _).heap++os)[g]?=_
 rw[Array.getElem?_append_left h1.lt]
end
structure mt (w:World) (g:Nat) where
 it:NItem
 ok:ItemOk w g it
instance (w:World) (g:Nat):Inhabited (mt w g):=⟨⟨⟨0,[],none,0⟩,⟨RdI.nil _ _ _,(by intro p h;cases h),by simp⟩⟩⟩
def lj (w:World) (g:Nat) (x:mt w g):List Value:=iN x.it
def kp (w:World) (g:Nat) (L:List NItem) (h: ∀it∈L,ItemOk w g it):Array (mt w g):=(L.attach.map fun x=>(⟨x.1,h x.1 x.2⟩:mt w g)).toArray
theorem gH {w:World} {g:Nat} {L:List NItem} (h: ∀it∈L,ItemOk w g it):(kp w g L h).size=L.length:=by
 unfold kp;rw[List.size_toArray,List.length_map,List.length_attach]
theorem oY {w:World} {g:Nat} {L:List NItem} (h: ∀it∈L,ItemOk w g it):(kp w g L h).toList.map (fun x:mt w g=>x.it)=L:=by
 unfold kp
 rw[List.map_map]
 exact List.attach_map_subtype_val L
theorem wv {w:World} {g:Nat} (d:Array (mt w g)) {j:Nat} {it:NItem} (hj:(d.toList.map (fun x:mt w g=>x.it))[j]?=some it):
  (flatK (lj w g) 2 d)[j*2]! = .int .i64 it.key/\(flatK (lj w g) 2 d)[j*2+1]! =it.val:=by
 have hlt:j<d.size:=by have:=(List.getElem?_eq_some_iff.1 hj).1;simpa using this
 have he:d[j]!.it=it:=by
  have:d.toList[j]?=some d[j]!:=by simp[hlt]
  rw[List.getElem?_map,this]at hj
  simpa using hj
 constructor
 ·rw[get_flatK _ _ _ _ (by omega),show j*2/2=j from by omega,show j*2%2=0 from by omega]
  simp[lj,iN,he]
 ·rw[get_flatK _ _ _ _ (by omega),show(j*2+1)/2=j from by omega,show(j*2+1)%2=1 from by omega]
  simp[lj,iN,he,NItem.val]
theorem r8 {w:World} {g N:Nat} {L:List NItem} (hL:mT w g N L) (h: ∀it∈L,ItemOk w g it):HoldsK (lj w g) 2 w g 0 (kp w g L h):=by
 obtain⟨f,h1,h2,h3⟩:=hL
 intro t ht
 rw[size_flatK,gH]at ht
 have hj:t/2<L.length:=by omega
 obtain⟨it,hit⟩:=getElem?_of_lt hj
 have hfl:=wv (kp w g L h) (j:=t/2) (it:=it) (by rw[oY];exact hit)
 obtain⟨q1,q2⟩:=h3 _ _ hit
 rw[Nat.zero_add]
 refine⟨?_,h1.frozen t⟩
 rw[h1.cell (by omega)]
 rcases Nat.mod_two_eq_zero_or_one t with e|e
 ·rw[show t=t/2*2 from by omega,hfl.1,q1];rfl
 ·rw[show t=t/2*2+1 from by omega,hfl.2,q2];rfl
theorem ItemOk.sortW {w:World} {g n:Nat} {d:Array (mt w g)} {os:Array Obj} {it:NItem} (h:ItemOk w g it):ItemOk (sortWorldK (lj w g) 2 w g 0 n d os) g it:=h.gb (um _ _ _ _ _ _)
theorem uO (w:World) (g size:Nat):CmpLays Tryz.prog 35 #[] (lj w g) 2 (fun a b=>fA a.it b.it) g 0 size w:=fun m os dk hs x y=>
 ie x.it.key y.it.key x.it.at_ y.it.at_ x.it.cap y.it.cap x.it.vals y.it.vals _ x.ok.sortW.rd y.ok.sortW.rd x.ok.le y.ok.le
def lf (L:List NItem):Prop:= ∀(i j:Nat) a b,i<j->L[i]?=some a->L[j]?=some b-> ¬fA b a<0
theorem rn (g cap:Nat) (L:List NItem) (w:World) (hL:mT w g (cap*2) L) (hlen:L.length<4611686018427387904) (hok: ∀it∈L,ItemOk w g it):
  Calls Tryz.prog 79 #[.slice (some ⟨g,0,none⟩) L.length cap,.func (Fn.func 35) #[] #[]] w fun e w'=>
   ∃L',e= .returned (.tuple #[])/\L'.Perm L/\lf L'/\mT w' g (cap*2) L'/\w.grownBy w' (some g):=by
 have eg: ∀args w,(callFunc 35 args).run Tryz.prog w= .ok (.enter 35 args) w:=enters_of Tryz.func35 (by kernel_rfl) rfl
 obtain⟨f,h1,h2,h3⟩:=hL
 have hlt:=h1.lt
 have hcon:=AnyQ.slices_SortFunc (α:=mt w g) Tryz.sortK 2 (fun w=>by kernel_rfl) (fun w=>by kernel_rfl) (lj w g) (fun _=>rfl) (fun x v hv=>by simp[lj,iN]at hv;rcases hv with rfl|rfl<;>rfl) (fun a b=>fA a.it b.it) (EC fun x:mt w g=>x.it) 35 #[] g 0 cap (kp w g L hok) w eg (uO w g _) (r8 ⟨f,h1,h2,h3⟩ hok) hlt (by rw[gH];exact hlen)
 change Calls Tryz.prog 79 _ _ _ at hcon
 rw[gH]at hcon
 refine hcon.mono fun e w' ⟨he,d',n,os,hp,hs,hw⟩=>?_
 obtain⟨hsz,_,hperm⟩:=hp
 rw[gH]at hsz
 have hlen':(d'.toList.map (fun x:mt w g=>x.it)).length=L.length:=by simp[hsz]
 refine⟨d'.toList.map (fun x:mt w g=>x.it),he,?_,?_,?_,by rw[hw];exact um _ _ _ _ _ _⟩
 ·have hp2:d'.toList.Perm (kp w g L hok).toList:=by
   have e1:d'.extract 0 L.length=d':=by rw[<- hsz];simp
   have e2:(kp w g L hok).extract 0 L.length=kp w g L hok:=by
    have:=gH hok
    rw[<- this];simp
   rw[e1,e2]at hperm
   exact hperm
  have:=hp2.map (fun x:mt w g=>x.it)
  rw[oY]at this
  exact this
 ·intro i j a b hij ha hb
  have hj:j<d'.size:=by have:=(List.getElem?_eq_some_iff.1 hb).1;simpa using this
  have ea:d'[i]!.it=a:=by
   have:d'.toList[i]?=some d'[i]!:=by simp[show i<d'.size by omega]
   rw[List.getElem?_map,this]at ha;simpa using ha
  have eb:d'[j]!.it=b:=by
   have:d'.toList[j]?=some d'[j]!:=by simp[hj]
   rw[List.getElem?_map,this]at hb;simpa using hb
  have:=hs i j (Nat.zero_le _) hij (by omega)
  unfold ltOf at this
  rw[decide_eq_false_iff_not]at this
  change ¬fA d'[j]!.it d'[i]!.it<0 at this
  rw[ea,eb]at this
  exact this
 ·rw[hw]
  refine⟨_,yT _ _ _ _ _ _ h1,by rw[hlen'];exact h2,fun j it hj=>?_⟩
  have hlt2:j<d'.size:=by have:=(List.getElem?_eq_some_iff.1 hj).1;simpa using this
  obtain⟨q1,q2⟩:=wv d' hj
  rw[if_pos (by rw[size_flatK];omega),if_pos (by rw[size_flatK];omega)]
  exact⟨q1,q2⟩
theorem zL (sx g cap:Nat) (L:List NItem) (w:World) (hL:mT w g (cap*2) L) (hcap:L.length<=cap) (hlen:L.length<=4611686018427387903) (hok: ∀it∈L,ItemOk w g it)
  (hS:w.rowIs sx 69 2 (fun j=>if j=0 then .slice (some ⟨g,0,none⟩) L.length cap else .func (Fn.func 35) #[] #[])) (hsx:sx≠g):
  Calls Tryz.prog 39 #[.pointer (some ⟨sx,0,none⟩)] w fun e w'=>
   ∃L',e= .returned (.tuple #[])/\L'.Perm L/\lf L'/\mT w' g (cap*2) (bY L')/\w'.cell? ⟨sx,0,none⟩=some (.slice (some ⟨g,0,none⟩) (bY L').length cap)/\w'.rowIs sx 69 2 (fun j=>if j=0 then .slice (some ⟨g,0,none⟩) (bY L').length cap else .func (Fn.func 35) #[] #[])/\
    (∀k,k<w.heap.size->k≠g->k≠sx->w'.heap[k]?=w.heap[k]?)/\w.heap.size<=w'.heap.size/\w'.os=w.os/\w'.tape=w.tape/\w'.output=w.output:=by
 have HL:=Lib.hid hL
 have HOK:=Lib.hid hok
 have HS:=Lib.hid hS
 have HN:=Lib.hid hsx
 have hglt:g<w.heap.size:=by obtain⟨f,h1,_⟩:=hL;exact h1.lt
 have hslt:=hS.lt
 clear hL hok hS hsx
 go_enter Tryz.func39,Tryz.ntmps39
 go_wp2_with fail
 have c0:(w.alloc (.cells #[.pointer (some ⟨sx,0,none⟩)] 107)).drew.cell? ⟨w.heap.size,0,none⟩=some (.pointer (some ⟨sx,0,none⟩)):=by go_simp
 have HE0:Hid (Ext w (w.alloc (.cells #[.pointer (some ⟨sx,0,none⟩)] 107)).drew):=Lib.hid ((Ext.refl _).alloc _).drew
 have hz0:w.heap.size<(w.alloc (.cells #[.pointer (some ⟨sx,0,none⟩)] 107)).drew.heap.size:=by simp[World.drew]
 generalize w.alloc (.cells #[.pointer (some ⟨sx,0,none⟩)] 107)=w1 at*
 refine de 8 (by kernel_rfl) (by kernel_rfl) ?_
 simp only[List.take_succ_cons,List.take_zero,List.drop_succ_cons,List.drop_zero]
 generalize w1.drew=w2 at*
 have s0:w2.cell? ⟨sx,0,none⟩=some (.slice (some ⟨g,0,none⟩) L.length cap):=(cT HS.out HE0.out).cell (by omega)
 have s1:w2.cell? ⟨sx,1,none⟩=some (.func (Fn.func 35) #[] #[]):=(cT HS.out HE0.out).cell (by omega)
 iterate 8 still_step
 refine wpStill_nil ?_
 have HC:=Lib.hid (rn g cap L w2 (HL.out.ext HE0.out) (by omega) (fun it hit=>(HOK.out it hit).ext HE0.out))
 clear s1
 go_wp2_with fail
 refine HC.out.mono ?_
 rintro e w3 ⟨L',rfl,hperm,hsorted,hlst,hgb⟩
 have HP:=Lib.hid hperm
 have HSO:=Lib.hid hsorted
 have HLS:=Lib.hid hlst
 have HG3:=Lib.hid hgb
 have HLL:Hid (L'.length=L.length):=Lib.hid hperm.length_eq
 clear hperm hsorted hlst hgb HC s0
 go_wp2_with fail
 have HOK3:Hid (∀it∈L',ItemOk w3 g it):=Lib.hid (fun it hit=>((HOK.out it (HP.out.subset hit)).ext HE0.out).gb HG3.out)
 have HS3:Hid (w3.rowIs sx 69 2 (fun j=>if j=0 then .slice (some ⟨g,0,none⟩) L.length cap else .func (Fn.func 35) #[] #[])):=Lib.hid ((cT HS.out HE0.out).of_block (HG3.out.block sx (Nat.lt_of_lt_of_le hslt HE0.out.size) (fun e=>HN.out (by injection e))))
 have d0:w3.cell? ⟨w.heap.size,0,none⟩=some (.pointer (some ⟨sx,0,none⟩)):=jX HG3.out c0 (by show w.heap.size≠g;omega)
 have d1:w3.cell? ⟨sx,0,none⟩=some (.slice (some ⟨g,0,none⟩) L.length cap):=HS3.out.cell (by omega)
 have d2:w3.frozen? ⟨sx,0,none⟩=false:=HS3.out.frozen 0
 have hcon:=m9 g cap L' w.heap.size sx 0 w3.drew (HLS.out.ext ((Ext.refl _).drew)) (by rw[HLL.out];exact hcap) (by rw[HLL.out];omega) (fun it hit=>(HOK3.out it hit).ext ((Ext.refl _).drew)) d0 (show w3.drew.cell? ⟨sx,0+1,none⟩=_ from HS3.out.cell (i:=1) (by omega)) (by omega) HN.out
 rw[HLL.out]at hcon
 have HC:=Lib.hid hcon
 clear hcon c0
 have HG4:Hid (w2.grownBy w3.drew (some g)):=Lib.hid (fQ HG3.out (en ((Ext.refl _).drew) g))
 go_region_law (go_simp;go_at_call 80;refine HC.out.mono ?_;rintro e w5 ⟨rfl,hlst,hgb⟩;have HLS5:=Lib.hid hlst;have HG5:=Lib.hid hgb;have HS5:Hid (w5.rowIs sx 69 2 (fun j=>if j=0 then .slice (some ⟨g,0,none⟩) L.length cap else .func (Fn.func 35) #[] #[])):=Lib.hid (HS3.out.of_block (hgb.block sx HS3.out.lt (fun e=>HN.out (by injection e))));have f0:w5.cell? ⟨w.heap.size,0,none⟩=some (.pointer (some ⟨sx,0,none⟩)):=jX hgb d0 (by show w.heap.size≠g;omega);have f1:w5.cell? ⟨sx,0,none⟩=some (.slice (some ⟨g,0,none⟩) L.length cap):=HS5.out.cell (by omega);have f2:w5.frozen? ⟨sx,0,none⟩=false:=HS5.out.frozen 0;clear hlst hgb)
 all_goals
  go_wp2_with fail
  go_end0
  have hrow:=(HS5.out.set 0 (.slice (some ⟨g,0,none⟩) (bY L').length cap)).congr (g:=fun j=>if j=0 then .slice (some ⟨g,0,none⟩) (bY L').length cap else .func (Fn.func 35) #[] #[]) (fun j hj=>by
   match j,hj with
   |0,_=>rfl
   |1,_=>rfl)
  have hgg:=fQ (fQ (en HE0.out g) HG4.out) HG5.out
  refine⟨L',rfl,HP.out,HSO.out,?_,hrow.cell (by omega),hrow,fun k hk hkg hks=>?_,?_,hgg.os,hgg.tape,hgg.output⟩
  ·obtain⟨f,q1,q2,q3⟩:=HLS5.out
   exact⟨f,q1.setOther (Ne.symm HN.out) _,q2,q3⟩
  ·rw[Below.heap_setCell _ _ _ _ hks]
   exact hgg.block k hk (fun e=>hkg (by injection e))
  ·simpa[World.setCell] using hgg.size
end
theorem rg (w:World):
  Calls Tryz.prog 79 #[.slice none 0 0,.func (Fn.func 35) #[] #[]] w fun e w'=>e= .returned (.tuple #[])/\ ∃n,w'=w.drewN n:=by
 have hl: ∀w,Calls Tryz.prog 117 #[.int .u64 0] w fun e w'=>e= .returned (.int .i64 0)/\w=w':=fun w=>by
  go_enter Tryz.func117,Tryz.ntmps117
  go_wp2
  go_ret
  refine⟨?_,rfl⟩
  show Ending.returned (.int .i64 (wrap64 (wrap64 (Lib.len8 0))))=_
  rw[show Lib.len8 0=0 from by decide+kernel,IntWalk.wrap64_in 0 ⟨by omega,by omega⟩,IntWalk.wrap64_in 0 ⟨by omega,by omega⟩]
 have hi: ∀w,Calls Tryz.prog 135 #[.slice none 0 0,.int .i64 0,.int .i64 0,.func (Fn.func 35) #[] #[]] w fun e w'=>e= .returned (.tuple #[])/\w=w':=fun w=>by
  go_enter Tryz.func135,Tryz.ntmps135
  go_wp2
  refine wp_loop_rounds 1 ?_
  rw[rounds_succ]
  go_wp2
  go_end0
  exact⟨rfl,rfl⟩
 have hp: ∀w,Calls Tryz.prog 116 #[.slice none 0 0,.int .i64 0,.int .i64 0,.int .i64 0,.func (Fn.func 35) #[] #[]] w fun e w'=>e= .returned (.tuple #[])/\w=w':=fun w=>by
  have HI:=Lib.hid hi
  clear hi hl
  go_enter Tryz.func116,Tryz.ntmps116
  go_wp2_with fail
  refine wp_loop_rounds 1 ?_
  rw[rounds_succ]
  go_wp2_with (go_at_call 135;refine(HI.out _).mono ?_;rintro e w' ⟨rfl,rfl⟩)
  refine bodyPost_ret (results_none rfl _ _ _) rfl ?_
  exact⟨rfl,rfl⟩
 have HP:=Lib.hid hp
 have HLn:=Lib.hid hl
 clear hp hl hi
 go_enter Tryz.func79,Tryz.ntmps79
 go_wp2_with (first|(go_at_call 117;refine(HLn.out _).mono ?_;rintro e w' ⟨rfl,rfl⟩)|(go_at_call 116;refine(HP.out _).mono ?_;rintro e w' ⟨rfl,rfl⟩))
 go_end0
 exact⟨rfl,0,rfl⟩
theorem m8 (w:World) (fv:Value):
  Calls Tryz.prog 80 #[.slice none 0 0,fv] w fun e w'=>e= .returned (.slice none 0 0)/\w=w':=by
 go_enter Tryz.func80,Tryz.ntmps80
 go_wp2_with fail
 go_ret
 exact⟨rfl,rfl⟩
theorem zj (sx:Nat) (w:World) (hS:w.rowIs sx 69 2 (fun j=>if j=0 then .slice none 0 0 else .func (Fn.func 35) #[] #[])):
  Calls Tryz.prog 39 #[.pointer (some ⟨sx,0,none⟩)] w fun e w'=>
   e= .returned (.tuple #[])/\w'.cell? ⟨sx,0,none⟩=some (.slice none 0 0)/\
    (∀k,k<w.heap.size->k≠sx->w'.heap[k]?=w.heap[k]?)/\w.heap.size<=w'.heap.size/\w'.os=w.os/\w'.tape=w.tape/\w'.output=w.output:=by
 have HS:=Lib.hid hS
 have hslt:=hS.lt
 clear hS
 go_enter Tryz.func39,Tryz.ntmps39
 go_wp2_with fail
 have c0:(w.alloc (.cells #[.pointer (some ⟨sx,0,none⟩)] 107)).drew.cell? ⟨w.heap.size,0,none⟩=some (.pointer (some ⟨sx,0,none⟩)):=by go_simp
 have HE0:Hid (Ext w (w.alloc (.cells #[.pointer (some ⟨sx,0,none⟩)] 107)).drew):=Lib.hid ((Ext.refl _).alloc _).drew
 generalize w.alloc (.cells #[.pointer (some ⟨sx,0,none⟩)] 107)=w1 at*
 refine de 8 (by kernel_rfl) (by kernel_rfl) ?_
 simp only[List.take_succ_cons,List.take_zero,List.drop_succ_cons,List.drop_zero]
 generalize w1.drew=w2 at*
 have s0:w2.cell? ⟨sx,0,none⟩=some (.slice none 0 0):=(cT HS.out HE0.out).cell (by omega)
 have s1:w2.cell? ⟨sx,1,none⟩=some (.func (Fn.func 35) #[] #[]):=(cT HS.out HE0.out).cell (by omega)
 iterate 8 still_step
 refine wpStill_nil ?_
 have HC:=Lib.hid (rg w2)
 clear s1
 go_wp2_with fail
 refine HC.out.mono ?_
 rintro e w3 ⟨rfl,n,rfl⟩
 have HE3:=Lib.hid (HE0.out.drewN n)
 have d0:(w2.drewN n).cell? ⟨w.heap.size,0,none⟩=some (.pointer (some ⟨sx,0,none⟩)):=c0
 have d1:(w2.drewN n).cell? ⟨sx,0,none⟩=some (.slice none 0 0):=s0
 have d2:(w2.drewN n).frozen? ⟨sx,0,none⟩=false:=(cT HS.out HE3.out).frozen 0
 clear HC s0 c0 HE0
 generalize w2.drewN n=w3 at*
 have HC:Hid (∀(w:World) (fv:Value),Calls Tryz.prog 80 #[.slice none 0 0,fv] w fun e w'=>e= .returned (.slice none 0 0)/\w=w'):=Lib.hid m8
 go_wp2_with fail
 go_region_law (go_simp;go_at_call 80;refine(HC.out _ _).mono ?_;rintro e w5 ⟨rfl,rfl⟩)
 all_goals
  go_wp2_with fail
  go_end0
  refine⟨rfl,?_,fun k hk hks=>?_,?_,HE3.out.os,HE3.out.tape,HE3.out.output⟩
  ·exact(((cT HS.out HE3.out).drew.set 0 (.slice none 0 0)).cell (i:=0) (by omega))
  ·show((w3.drew.setCell ⟨sx,0,none⟩ (.slice none 0 0)).heap[k]?)=_
   rw[Below.heap_setCell _ _ _ _ hks]
   exact HE3.out.block k hk
  ·have:=HE3.out.size
   simpa[World.setCell,World.drew] using this
theorem Tryz.infoKeyed:(Tryz.prog.info? 74).map (fun i=>(i.zero,i.size,i.bytes))=some (some (.agg #[.int .i64 0,.slice none 0 0]),2,32):=by kernel_rfl
def qc (rows:List (List Int)) (x:List Int):Option Int:=
 if -4611686018427387904<=fj x (eo rows x) x.length/\fj x (eo rows x) x.length<=4611686018427387904 then some (fj x (eo rows x) x.length)else none
def lD (rows:List (List Int)) (x:List Int):Option (Int×List Int):=
 if nP rows.length x then(match qc rows x,gM x with
  |some k,some y=>some (k,y)
  |_,_=>none)else none
def fl (rows:List (List Int)):List (List Int)->Option (List (Int×List Int))
 |[]=>some []
 |x::l=>match lD rows x,fl rows l with
  |some a,some b=>some (a::b)
  |_,_=>none
theorem im {rows:List (List Int)}: ∀{l:List (List Int)} {k:Nat} {x:List Int},l[k]?=some x->lD rows x=none->fl rows l=none
 |[],_,_,h,_=>by simp at h
 |a::l,0,x,h,h'=>by simp at h;subst h;simp[fl,h']
 |a::l,k+1,x,h,h'=>by
  simp at h
  have:=im h h'
  simp[fl,this]
def NItem.dat (it:NItem):Int×List Int:=(it.key,it.vals)
theorem mU {rows:List (List Int)}: ∀{l:List (List Int)} {L:List NItem},L.length=l.length->(∀(j:Nat) (it:NItem),L[j]?=some it-> ∃x,l[j]?=some x/\lD rows x=some it.dat)->fl rows l=some (L.map NItem.dat)
 |[],[],_,_=>rfl
 |[],_::_,h,_=>by simp at h
 |_::_,[],h,_=>by simp at h
 |x::l,it::L,h,hh=>by
  have h1:=hh 0 it rfl
  simp at h1
  have h2:=mU (rows:=rows) (l:=l) (L:=L) (by simpa using h) (fun j it' hj=>by
   obtain⟨y,q1,q2⟩:=hh (j+1) it' (by simpa using hj)
   exact⟨y,by simpa using q1,q2⟩)
  simp[fl,h1,h2]
def gW (L:List NItem):List Value:=L.flatMap iN
theorem sE (L:List NItem) (it:NItem):gW L++iN it=gW (L++[it]):=by simp[gW]
theorem qr: ∀{L:List NItem} {j:Nat} {it:NItem},L[j]?=some it->(gW L)[j*2]?=some (.int .i64 it.key)/\(gW L)[j*2+1]?=some it.val
 |[],_,_,h=>by simp at h
 |a::L,0,it,h=>by simp at h;subst h;simp[gW,iN,NItem.val]
 |a::L,j+1,it,h=>by
  simp at h
  obtain⟨h1,h2⟩:=qr h
  have e:gW (a::L)= .int .i64 a.key::a.val::gW L:=by simp[gW,iN,NItem.val]
  rw[e,show(j+1)*2=j*2+1+1 from by omega,show j*2+1+1+1=(j*2+1)+1+1 from rfl]
  simp only[List.getElem?_cons_succ]
  exact⟨h1,h2⟩
theorem vG (it:NItem): ∀u∈iN it,u.oneCell'=true:=by
 intro u hu
 simp[iN]at hu
 rcases hu with rfl|rfl<;>rfl
def EF (v:Value):Nat->Value:=fun j=>if j=0 then v else .func (Fn.func 35) #[] #[]
def EK (w:World) (sx:Nat) (v:Value) (it:NItem):Prop:=RdI .i64 w it.at_ it.vals/\(it.vals.length<=9223372036854775807/\it.vals.length<=it.cap)/\ ∀p,it.at_=some p->v.ownBlock≠some p.block/\sx<p.block/\p.block<w.heap.size
def DJ (k:Nat) (w:World) (A:Option Addr) (M:List (List Int)):Prop:=M.length<=65536/\ ∃b,A=some ⟨b,0,none⟩/\k<=b/\b<w.heap.size/\ ∀(i:Nat) r,M[i]?=some r-> ∃A' c,w.cell? ⟨b,i,none⟩=some (.slice A' r.length c)/\r.length<=c/\r.length<=9223372036854775807/\RdI .i64 w A' r/\ ∀p,A'=some p->k<=p.block/\p.block<w.heap.size
def vS (k0:Nat) (w':World) (r:Option (List (Int×List Int))) (e:Ending):Prop:=match r with
 |none=>e= .returned (.tuple #[.slice none 0 0,.bool false])
 |some ks=> ∃L:List NItem,(L.map NItem.dat).Perm ks/\lf L/\ ∃A,e= .returned (.tuple #[.slice A (bY L).length (bY L).length,.bool true])/\iA .i64 w' A ((bY L).map NItem.vals)/\DJ k0 w' A ((bY L).map NItem.vals)
theorem yR {rows:List (List Int)} {x:List Int} {k:Int} (h:qc rows x=some k):mH (fj x (eo rows x) x.length)= .tuple #[.int .i64 k,.bool true]:=by
 unfold qc at h
 split at h
 ·cases h;unfold mH;rw[if_pos (by assumption)]
 ·cases h
theorem yU {rows:List (List Int)} {x:List Int} (h:qc rows x=none):mH (fj x (eo rows x) x.length)= .tuple #[.int .i64 0,.bool false]:=by
 unfold qc at h
 split at h
 ·cases h
 ·unfold mH;rw[if_neg (by assumption)]
theorem ky: ∀{l:List NItem} {p it:NItem},it∈dF p l->it∈l
 |[],_,_,h=>by simp[dF]at h
 |b::l,p,it,h=>by
  unfold dF at h
  split at h
  ·exact List.mem_cons_of_mem _ (ky h)
  ·rcases List.mem_cons.1 h with rfl|h
   ·exact List.mem_cons_self
   ·exact List.mem_cons_of_mem _ (ky h)
theorem mO {L:List NItem} {it:NItem} (h:it∈bY L):it∈L:=by
 cases L with
 |nil=>simp[bY]at h
 |cons a l=>
  unfold bY at h
  rcases List.mem_cons.1 h with rfl|h
  ·exact List.mem_cons_self
  ·exact List.mem_cons_of_mem _ (ky h)
theorem pr: ∀(l:List NItem) (p:NItem),(dF p l).length<=l.length
 |[],_=>by simp[dF]
 |b::l,p=>by
  unfold dF
  have:=pr l b
  split
  ·simp;omega
  ·simp;omega
theorem sC (L:List NItem):(bY L).length<=L.length:=by
 cases L with
 |nil=>simp[bY]
 |cons a l=>have:=pr l a;simp[bY];omega
def Bo (L:List NItem) (m:Nat):Nat->Value:=fun j=>if j<m then(match L[j]? with|some it=>it.val|none=>undef)else .slice none 0 0
theorem nO (A B:Option Addr) (c d:Nat) (rows l:List (List Int)) (w:World) (hR:iA .i64 w A rows) (hl:iA .i64 w B l) (lr:rows.length<=9223372036854775807) (hc:rows.length<=c) (ll:l.length<=65536):
  Calls Tryz.prog 14 #[.slice A rows.length c,.slice B l.length d] w fun e w'=>vS w.heap.size w' (if dv rows then fl rows l else none) e/\Ext w w':=by
 have HR:=Lib.hid hR
 have HL:=Lib.hid hl
 clear hR hl
 cases hI:dv rows with
 |false=>
  have HV:Hid ((if dv rows then fl rows l else none)=none):=Lib.hid (by simp[hI])
  go_enter Tryz.func14,Tryz.ntmps14
  go_wp2_with (go_at_call 34;refine(fL A c rows _ HR.out lr hc).mono ?_;rintro e w1 ⟨rfl,he⟩)
  go_ret2
  exact⟨rfl,he⟩
 |true=>
  have HSm:=Lib.hid (iK hI)
  have h8:rows.length<=8:=HSm.out.2.1
  go_enter Tryz.func14,Tryz.ntmps14
  go_wp2_with (go_at_call 34;refine(fL A c rows _ HR.out lr hc).mono ?_;rintro e w1 ⟨rfl,he⟩;have HE:=Lib.hid he;clear he)
  clear hI
  obtain⟨wo,rfl⟩: ∃wo:World,wo=w1:=⟨_,rfl⟩
  go_loopw [22,8,9,10,11,12] (fun i _ _ _ _ _ wr=> ∃(k:Nat) (L:List NItem) (v:Value),k<=l.length/\i= .int .i64 k/\Hid (L.length=k/\(k=0->v= .slice none 0 0))/\Hid (∀(j:Nat) (it:NItem),L[j]?=some it-> ∃x,l[j]?=some x/\lD rows x=some it.dat)/\Hid (wr.ownsRow (wo.heap.size+1) 74 2 v k (gW L))/\Hid (wr.rowIs wo.heap.size 69 2 (EF v))/\Hid (Ext wo wr)/\Hid (∀it∈L,EK wr wo.heap.size v it)) (fun i _ _ _ _ _ _=>l.length-(intOf i).toNat)
  case atStart=>
   refine⟨0,[],.slice none 0 0,Nat.zero_le _,rfl,Lib.hid ⟨rfl,fun _=>rfl⟩,Lib.hid (by simp),Lib.hid (World.ownsRow_nil _ _ _ _),Lib.hid ?_,Lib.hid ?_,Lib.hid (by simp)⟩
   ·refine World.rowIs_alloc wo #[.slice none 0 0,.func (Fn.func 35) #[] #[]] _ _ (fun i hi=>?_)
    match i,hi with
    |0,_=>rfl
    |1,_=>rfl
   ·exact(Ext.refl _).alloc _
  case round=>
   obtain⟨k,L,v,hk,rfl,HLen,HIt,HOwn,HRow,HE2,HIV⟩:=hrel
   by_cases hlt:k<l.length
   ·obtain⟨x,hx⟩:=getElem?_of_lt hlt
    obtain⟨b,off,BX,cx,rfl,hcx,hcxl,hlx,hrx⟩:=((HL.out.ext HE.out).ext HE2.out).at_ hx
    have HX:=Lib.hid hx
    have HRX:=Lib.hid hrx
    clear hx hrx
    cases hF:nP rows.length x with
    |false=>
     have HN:Hid (fl rows l=none):=Lib.hid (im HX.out (by unfold lD;rw[hF];rfl))
     go_wp2_with (go_at_call 36;refine(jH rows.length BX cx x _ HRX.out hlx).mono ?_;rintro e w2 ⟨rfl,rfl⟩)
     go_ret2
     exact⟨by rw[HN.out];rfl,HE.out.trans HE2.out⟩
    |true=>
     obtain⟨hxl,hxb⟩:=nT.1 hF
     have hxle:x.length<=rows.length:=by omega
     have hxge:rows.length<=x.length:=by omega
     have HXB:=Lib.hid hxb
     have HF:=Lib.hid hF
     have HA:=Lib.hid (qa HSm.out hxb)
     have HAL:=Lib.hid (ki rows x)
     clear hxl hxb
     go_wp2_with (go_at_call 36;refine(jH rows.length BX cx x _ HRX.out hlx).mono ?_;rintro e w2 ⟨rfl,rfl⟩)
     clear hF
     refine(qC A BX c cx rows x _ ((HR.out.ext HE.out).ext HE2.out) HRX.out (by omega) (fun i hi=>by rw[HSm.out.2.2.1 i hi];exact hxge) hlx).mono ?_
     rintro e w3 ⟨rfl,hrd,he3⟩
     have hcon:=xe BX (some ⟨wr.heap.size,0,none⟩) cx rows.length x (eo rows x) w3 (HRX.out.ext he3) hrd (by rw[HAL.out];exact hxle) (by omega) (by rw[HAL.out];omega) (fun i z hz=>je HXB.out hz) HA.out
     rw[HAL.out]at hcon
     have HC:=Lib.hid hcon
     have HE3:=Lib.hid he3
     clear hcon hrd he3
     go_wp2_with fail
     cases hN:qc rows x with
     |none=>
      have hno:=HC.out
      rw[yU hN]at hno
      have HNone:Hid (fl rows l=none):=Lib.hid (im HX.out (by unfold lD;rw[HF.out,hN];rfl))
      refine hno.mono ?_
      rintro e w4 ⟨rfl,he4⟩
      have HE4:=Lib.hid (HE3.out.trans he4)
      clear he4 hno HC hN
      go_wp2_with fail
      refine(fq BX cx x _ (HRX.out.ext HE4.out) (by omega)).mono ?_
      rintro e w5 ⟨hcv,he5⟩
      have HE5:=Lib.hid (((HE.out.trans HE2.out).trans HE4.out).trans he5)
      clear he5
      have hform: ∃va vb,e= .returned (.tuple #[va,.bool vb]):=by
       unfold zS at hcv
       split at hcv
       ·exact⟨_,_,hcv⟩
       ·obtain⟨A',c',h,_⟩:=hcv;exact⟨_,_,h⟩
      obtain⟨va,vb,rfl⟩:=hform
      clear hcv
      go_wp2_with fail
      go_ret2
      exact⟨by rw[HNone.out];rfl,HE5.out⟩
     |some key=>
      have hno:=HC.out
      rw[yR hN]at hno
      refine hno.mono ?_
      rintro e w4 ⟨rfl,he4⟩
      have HE4:=Lib.hid (HE3.out.trans he4)
      have HNo:=Lib.hid hN
      clear he4 hno HC hN
      go_wp2_with fail
      refine(fq BX cx x _ (HRX.out.ext HE4.out) (by omega)).mono ?_
      rintro e w5 ⟨hcv,he5⟩
      have HE5:=Lib.hid (HE4.out.trans he5)
      clear he5
      cases hS:gM x with
      |none=>
       have HNone:Hid (fl rows l=none):=Lib.hid (im HX.out (by unfold lD;rw[HF.out,HNo.out,hS];rfl))
       rw[hS]at hcv
       obtain rfl:=hcv
       clear hS
       go_wp2_with fail
       go_ret2
       exact⟨by rw[HNone.out];rfl,(HE.out.trans HE2.out).trans HE5.out⟩
      |some y=>
       rw[hS]at hcv
       obtain⟨AY,cy,rfl,hcy,hry,hby⟩:=hcv
       have HIO:Hid (lD rows x=some (key,y)):=Lib.hid (by unfold lD;rw[HF.out,HNo.out,hS];rfl)
       have HRY:=Lib.hid hry
       have HBY:=Lib.hid hby
       have HYL:Hid (y.length=x.length):=Lib.hid (by
        unfold gM at hS
        split at hS
        ·split at hS
         ·cases hS
         ·cases hS;split<;>simp
        ·cases hS)
       clear hS hry hby
       have HO5:=Lib.hid (tz HOwn.out HE5.out)
       have HR5:=Lib.hid (cT HRow.out HE5.out)
       have t0:w5.cell? ⟨wo.heap.size,0,none⟩=some v:=HR5.out.cell (by omega)
       have t1:w5.frozen? ⟨wo.heap.size,0,none⟩=false:=HR5.out.frozen 0
       have hslt:wo.heap.size<w5.heap.size:=HR5.out.lt
       have HRd:Hid (Rd (w5.alloc (.cells #[.int .i64 key,.slice AY y.length cy] 74)) (some ⟨w5.heap.size,0,none⟩) (iN ⟨key,y,AY,cy⟩)):=Lib.hid (fun _=>⟨w5.heap.size,0,rfl,fun i u hu=>by
        match i,hu with
        |0,hu=>simp[iN]at hu;subst hu;go_simp
        |1,hu=>simp[iN]at hu;subst hu;go_simp⟩)
       go_wp2_with (at_builtin;refine fC _ rfl (.tmp 51) (.tmp 55) _ rfl (wo.heap.size+1) 74 (.agg #[.int .i64 0,.slice none 0 0]) 2 32 Tryz.underlying67 Tryz.infoKeyed rfl (by omega) v k (gW L) rfl (HO5.out.alloc _) (some ⟨w5.heap.size,0,none⟩) 1 1 _ rfl HRd.out rfl (vG _) (by simp only[maxLen];omega) (by omega) (by simp;omega) ?_;intro v6 w6 hown6 hg6 hb6;have HO6:=Lib.hid hown6;have HG6:=Lib.hid hg6;have HB6:=Lib.hid hb6;have hz6:w5.heap.size+1<=w6.heap.size:=(by have:=hg6.size;simpa using this);have s0:w6.cell? ⟨wo.heap.size,0,none⟩=some v:=(by refine hg6.cell (a:=⟨wo.heap.size,0,none⟩) (by rw[World.cell?_alloc_lt _ _ _ hslt];exact t0) (fun e=>?_);have:=(HO5.out.lt _ e.symm).1;simp at this;omega);have s1:w6.frozen? ⟨wo.heap.size,0,none⟩=false:=(by rw[World.frozen?_of_block (hg6.block wo.heap.size (by simp;omega) (fun e=>by have:=(HO5.out.lt _ e.symm).1;omega))];rw[World.frozen?_of_block (Below.heap_alloc _ _ _ hslt)];exact t1);obtain⟨g6,cap6,f6,rfl,_,_,_,_,_⟩:=n4 hown6 (by omega);clear hown6 hg6 hb6 t0 t1)
       go_roundw
       case rel=>
        have hne: ∀j,v.ownBlock=some j->wo.heap.size+1<=j:=fun j hj=>(HO5.out.lt j hj).1
        have hw5:Ext wo (w5.alloc (.cells #[.int .i64 key,.slice AY y.length cy] 74)):=(HE2.out.trans HE5.out).alloc _
        have hw6:Ext wo w6:=hw5.grown HG6.out (fun j hj=>by have:=hne j hj;omega)
        have hr6:w6.rowIs wo.heap.size 69 2 (EF v):=(HR5.out.alloc _).of_block (HG6.out.block wo.heap.size (by simp;omega) (fun e=>by have:=hne _ e.symm;omega))
        refine⟨k+1,L++[⟨key,y,AY,cy⟩],.slice (some ⟨g6,0,none⟩) (k+1) cap6,by omega,by go_num,Lib.hid ⟨by simp[HLen.out.1],fun h=>by omega⟩,Lib.hid (fun j it hj=>?_),Lib.hid ?_,Lib.hid ?_,Lib.hid (hw6.setCell (Nat.le_refl _) _),Lib.hid (fun it hit=>?_)⟩
        ·rcases Nat.lt_or_ge j L.length with h|h
         ·rw[List.getElem?_append_left h]at hj
          exact HIt.out j it hj
         ·rw[List.getElem?_append_right h]at hj
          have hj0:j-L.length=0:=by
           rcases Nat.eq_zero_or_pos (j-L.length)with h0|h0
           ·exact h0
           ·rw[List.getElem?_eq_none (by simp;omega)]at hj;cases hj
          rw[hj0]at hj
          simp at hj
          subst hj
          have:j=k:=by have:=HLen.out.1;omega
          subst this
          exact⟨x,HX.out,HIO.out⟩
        ·rw[<- sE]
         exact ownsRow_setCell_below HO6.out (by show wo.heap.size<wo.heap.size+1;omega) _
        ·exact(hr6.set 0 _).congr (fun j hj=>by
          match j,hj with
          |0,_=>rfl
          |1,_=>rfl)
        ·rcases List.mem_append.1 hit with h|h
         ·obtain⟨q1,q2,q3⟩:=HIV.out it h
          have r5:RdI .i64 (w5.alloc (.cells #[.int .i64 key,.slice AY y.length cy] 74)) it.at_ it.vals:=q1.ext (HE5.out.alloc _)
          have hsz:=HE5.out.size
          refine⟨fun hn=>?_,q2,fun p hp=>?_⟩
          ·obtain⟨b',off',hb',hc'⟩:=r5 hn
           obtain⟨q4,q5,q6⟩:=q3 _ hb'
           refine⟨b',off',hb',fun i u hu=>?_⟩
           rw[World.cell?_setCell_other _ _ _ _ (fun e=>by have:=congrArg Addr.block e;simp at this q5;omega)]
           exact HG6.out.cell (hc' i u hu) (fun e=>q4 e.symm)
          ·obtain⟨q4,q5,q6⟩:=q3 p hp
           refine⟨fun e=>?_,q5,by simp[World.setCell];omega⟩
           rcases HB6.out with h6|h6
           ·rw[h6]at e;exact q4 e
           ·rw[h6]at e
            injection e with e
            simp at e;omega
         ·simp at h
          subst h
          have r5:RdI .i64 (w5.alloc (.cells #[.int .i64 key,.slice AY y.length cy] 74)) AY y:=HRY.out.ext ((Ext.refl _).alloc _)
          have hsz:=HE4.out.size
          have hs2:=HE2.out.size
          have hrl:=HRow.out.lt
          have ho:=HOwn.out
          have q3: ∀p,AY=some p->v.ownBlock≠some p.block/\wo.heap.size<p.block/\p.block<w5.heap.size:=fun p hp=>by
           obtain⟨h1,h2⟩:=HBY.out p hp
           refine⟨fun e=>?_,by omega,h2⟩
           have:=(ho.lt _ e).2
           omega
          refine⟨fun hn=>?_,⟨by show y.length<=_;rw[HYL.out];omega,hcy⟩,fun p hp=>?_⟩
          ·obtain⟨b',off',hb',hc'⟩:=r5 hn
           obtain⟨q4,q5,q6⟩:=q3 _ hb'
           refine⟨b',off',hb',fun i u hu=>?_⟩
           rw[World.cell?_setCell_other _ _ _ _ (fun e=>by have:=congrArg Addr.block e;simp at this q5;omega)]
           exact HG6.out.cell (hc' i u hu) (fun e=>q4 e.symm)
          ·obtain⟨q4,q5,q6⟩:=q3 p hp
           refine⟨fun e=>?_,q5,by simp[World.setCell];omega⟩
           rcases HB6.out with h6|h6
           ·rw[h6]at e;exact q4 e
           ·rw[h6]at e
            injection e with e
            simp at e;omega
       case measure=>simp[intOf];omega
   ·have hkl:k=l.length:=by omega
    have HIO:Hid (fl rows l=some (L.map NItem.dat)):=Lib.hid (mU (by rw[HLen.out.1,hkl]) HIt.out)
    by_cases hk0:0<k
    ·obtain⟨g,cap,f,rfl,hcap,hcm,hg,hrow,hf⟩:=n4 HOwn.out hk0
     have HLst:Hid (mT wr g (cap*2) L):=Lib.hid ⟨f,hrow,by rw[HLen.out.1];omega,fun j it hj=>by
      obtain⟨q1,q2⟩:=qr hj
      exact⟨hf _ _ q1,hf _ _ q2⟩⟩
     have HIV2:=Lib.hid HIV.out
     have hcon:=zL wo.heap.size g cap L wr HLst.out (by rw[HLen.out.1];exact hcap) (by rw[HLen.out.1];omega) (fun it hit=>by
      obtain⟨q1,q2,q3⟩:=HIV.out it hit
      exact⟨q1,fun p hp e=>(q3 p hp).1 (by simp[Value.ownBlock,e]),q2.1⟩) (by rw[HLen.out.1];exact HRow.out) (by omega)
     have HC:=Lib.hid hcon
     have hglt:=hrow.lt
     have hslt:=HRow.out.lt
     clear hcon hf hrow hkl
     go_wp2_with fail
     refine HC.out.mono ?_
     rintro e w5 ⟨L',rfl,hperm,hsort,hlst,hcell,hrow5,hblk,hsz,h1,h2,h3⟩
     have HP:=Lib.hid hperm
     have HSo:=Lib.hid hsort
     have HL5:=Lib.hid hlst
     have HE5:Hid (Ext wo w5):=Lib.hid ⟨h1.trans HE2.out.os,h2.trans HE2.out.tape,h3.trans HE2.out.output,Nat.le_trans HE2.out.size hsz,fun j hj=>by
      rw[hblk j (Nat.lt_of_lt_of_le hj HE2.out.size) (by omega) (by omega)]
      exact HE2.out.block j hj⟩
     have HIt5:Hid (∀it∈bY L',DB .i64 w5 it.val it.vals):=Lib.hid (fun it hit=>by
      obtain⟨q1,q2,q3⟩:=HIV.out it (hperm.subset (mO hit))
      refine⟨it.at_,it.cap,rfl,q2.2,q2.1,fun hn=>?_⟩
      obtain⟨b',off',hb',hc'⟩:=q1 hn
      obtain⟨r1,r2,r3⟩:=q3 _ hb'
      refine⟨b',off',hb',fun i u hu=>?_⟩
      rw[World.cell?_of_block (w:=wr) (hblk b' r3 (fun e=>r1 (by simp[Value.ownBlock,e])) (Nat.ne_of_gt r2))]
      exact hc' i u hu)
     have HBk:Hid (∀it∈bY L',∀p,it.at_=some p->wo.heap.size<p.block/\p.block<w5.heap.size):=Lib.hid (fun it hit p hp=>by
      obtain⟨q1,q2,q3⟩:=HIV.out it (hperm.subset (mO hit))
      obtain⟨r1,r2,r3⟩:=q3 _ hp
      exact⟨r2,Nat.lt_of_lt_of_le r3 hsz⟩)
     have hm:(bY L').length<=65536:=by
      have h1:=sC L'
      have h2:=hperm.length_eq
      rw[HLen.out.1]at h2
      omega
     have hmk:=run_make_row' (P:=Tryz.prog) 22 35 (.slice none 0 0) 24 Tryz.underlying22 Tryz.infoSlI64 rfl .i64 .i64 (bY L').length (by omega) (by omega)
     have hcell2: ∀o,(w5.alloc o).cell? ⟨wo.heap.size,0,none⟩=some (.slice (some ⟨g,0,none⟩) (bY L').length cap):=fun o=>by rw[World.cell?_alloc_lt _ _ _ (by show wo.heap.size<_;omega)];exact hcell
     have HS0:=Lib.hid (World.rowIs_made w5 (.slice none 0 0) (bY L').length 35)
     clear hperm hsort hlst hrow5 hblk h1 h2 h3 HC
     go_wp2_with fail
     clear hmk hcell2 hcell
     go_loopw [67,14,15] (fun i _ _ wx=> ∃m:Nat,m<=(bY L').length/\i= .int .i64 m/\Hid (wx.rowIs w5.heap.size 35 (bY L').length (Bo (bY L') m))/\Hid (Ext w5 wx)) (fun i _ _ _=>(bY L').length-(intOf i).toNat)
     case atStart=>exact⟨0,Nat.zero_le _,rfl,Lib.hid (HS0.out.congr (fun j _=>by simp[Bo])),Lib.hid ((Ext.refl _).alloc _)⟩
     case round=>
      clear HS0
      obtain⟨wp,rfl⟩: ∃wp:World,wp=wr:=⟨_,rfl⟩
      obtain⟨m,hmm,rfl,HO,HX5⟩:=hrel
      by_cases hml:m<(bY L').length
      ·obtain⟨it,hit⟩:=getElem?_of_lt hml
       have HIT:=Lib.hid hit
       have t1:=(HL5.out.ext HX5.out).cell0 hit
       have t2:=(HL5.out.ext HX5.out).cell1 hit
       have hlt5:=HO.out.lt
       have t3: ∀o,(wp.alloc o).cell? ⟨w5.heap.size,m,none⟩=some (.slice none 0 0):=fun o=>by
        rw[(HO.out.alloc o).cell hml];simp[Bo]
       have t4: ∀o,(wp.alloc o).frozen? ⟨w5.heap.size,m,none⟩=false:=fun o=>(HO.out.alloc o).frozen m
       clear hit
       go_wp2_with fail
       go_roundw
       case rel=>
        refine⟨m+1,by omega,by go_num,Lib.hid (((HO.out.set m _).congr (fun j _=>?_)).alloc _),Lib.hid ((HX5.out.setCell (Nat.le_refl _) _).alloc _)⟩
        unfold Bo
        by_cases e:j=m
        ·subst e
         rw[if_pos rfl,if_pos (by omega),HIT.out];rfl
        ·rw[if_neg e]
         by_cases e2:j<m
         ·rw[if_pos e2,if_pos (by omega)]
         ·rw[if_neg e2,if_neg (by omega)]
       case measure=>simp[intOf];omega
      ·go_wp2_with fail
       go_ret2
       have hmeq:m=(bY L').length:=by omega
       refine⟨?_,(HE.out.trans HE5.out).trans HX5.out⟩
       rw[HIO.out]
       have hsw:=HE.out.size
       have hs5:=HE5.out.size
       have hs6:=HX5.out.size
       have hnew:DJ w.heap.size wp (some ⟨w5.heap.size,0,none⟩) ((bY L').map NItem.vals):=by
        refine⟨by rw[List.length_map];exact hm,w5.heap.size,rfl,by omega,HO.out.lt,fun i r hr=>?_⟩
        rw[List.getElem?_map]at hr
        cases hci:(bY L')[i]? with
        |none=>rw[hci]at hr;cases hr
        |some it=>
         rw[hci]at hr
         simp at hr
         subst hr
         have hil:=(List.getElem?_eq_some_iff.1 hci).1
         have hmem:=List.mem_of_getElem? hci
         obtain⟨A1,c1,e1,e2,e3,e4⟩:=(HIt5.out it hmem).ext HX5.out
         refine⟨it.at_,it.cap,?_,?_,e3,?_,fun p hp=>?_⟩
         ·rw[HO.out.cell hil]
          unfold Bo
          rw[if_pos (by omega),hci];rfl
         ·unfold NItem.val at e1;cases e1;exact e2
         ·unfold NItem.val at e1;cases e1;exact e4
         ·have:=HBk.out it hmem p hp
          omega
       refine⟨L',HP.out.map NItem.dat,HSo.out,some ⟨w5.heap.size,0,none⟩,rfl,fun _=>⟨w5.heap.size,0,rfl,fun i r hr=>?_⟩,hnew⟩
       obtain⟨_,b1,e1,_,_,e2⟩:=hnew
       injection e1 with e1
       injection e1 with e1
       subst e1
       obtain⟨A1,c1,e3,e4,e5,e6,_⟩:=e2 i r hr
       exact⟨_,by rw[Nat.zero_add];exact e3,A1,c1,rfl,e4,e5,e6⟩
    ·have hv:=HLen.out.2 (by omega)
     have hL0:L=[]:=List.eq_nil_of_length_eq_zero (by rw[HLen.out.1];omega)
     subst hv hL0
     have HC:=Lib.hid (zj wo.heap.size wr HRow.out)
     have hslt:=HRow.out.lt
     clear hkl
     go_wp2_with fail
     refine HC.out.mono ?_
     rintro e w5 ⟨rfl,hcell,hblk,hsz,h1,h2,h3⟩
     have HE5:Hid (Ext wo w5):=Lib.hid ⟨h1.trans HE2.out.os,h2.trans HE2.out.tape,h3.trans HE2.out.output,Nat.le_trans HE2.out.size hsz,fun j hj=>by
      rw[hblk j (Nat.lt_of_lt_of_le hj HE2.out.size) (by omega)]
      exact HE2.out.block j hj⟩
     have hmk: ∀w:World,(Instr.makeSlice 22 (.int .i64 0) (.int .i64 0)).run Tryz.prog w= .ok (.slice (some ⟨w.heap.size,0,none⟩) 0 0) (w.alloc (.cells (madeCells #[.slice none 0 0] 0) 35)):=run_make_row' (P:=Tryz.prog) 22 35 (.slice none 0 0) 24 Tryz.underlying22 Tryz.infoSlI64 rfl .i64 .i64 0 (by omega) (by omega)
     have hcell2: ∀o,(w5.alloc o).cell? ⟨wo.heap.size,0,none⟩=some (.slice none 0 0):=fun o=>by rw[World.cell?_alloc_lt _ _ _ (by show wo.heap.size<_;omega)];exact hcell
     clear hblk h1 h2 h3 HC
     go_wp2_with fail
     refine wp_loop_rounds 1 ?_
     rw[rounds_succ]
     go_wp2_with fail
     go_ret2
     refine⟨?_,(HE.out.trans HE5.out).alloc _⟩
     rw[HIO.out]
     exact⟨[],.refl _,(by intro i j a b _ h;simp at h),some ⟨w5.heap.size,0,none⟩,rfl,iA.nil _ _ _,by simp[bY],w5.heap.size,rfl,by have:=HE.out.size;have:=HE5.out.size;omega,by simp,by intro i r hr;simp[bY]at hr⟩
def uq (a b:Int×List Int):Prop:=a.1<b.1\/a.1=b.1/\dt a.2 b.2<0
instance (a b:Int×List Int):Decidable (uq a b):=inferInstanceAs (Decidable (_\/_))
def np (x:Int×List Int):List (Int×List Int)->List (Int×List Int)
 |[]=>[x]
 |a::l=>if uq a x then a::np x l else if uq x a then x::a::l else a::l
def il (l:List (Int×List Int)):List (Int×List Int):=l.foldl (fun acc x=>np x acc) []
theorem kS (a:Int×List Int): ¬uq a a:=by
 unfold uq;rw[fD];omega
theorem qj {a b c:Int×List Int} (h1:uq a b) (h2:uq b c):uq a c:=by
 unfold uq at*
 rcases h1 with h1|⟨h1,h1'⟩<;>rcases h2 with h2|⟨h2,h2'⟩
 ·omega
 ·omega
 ·omega
 ·exact .inr ⟨by omega,jd h1' h2'⟩
theorem l7 {a b:Int×List Int} (h1: ¬uq a b) (h2: ¬uq b a):a=b:=by
 unfold uq at*
 have ha:=iC a.2 b.2
 have e1:a.1=b.1:=by omega
 have e2:dt a.2 b.2=0:=by omega
 exact Prod.ext e1 (jY e2)
def wK (l:List (Int×List Int)):Prop:=l.Pairwise uq
theorem wM: ∀{l m:List (Int×List Int)},wK l->wK m->(∀x,x∈l↔x∈m)->l=m
 |[],[],_,_,_=>rfl
 |[],b::m,_,_,h=>by have:=(h b).2 List.mem_cons_self;simp at this
 |a::l,[],_,_,h=>by have:=(h a).1 List.mem_cons_self;simp at this
 |a::l,b::m,hl,hm,h=>by
  obtain⟨hl1,hl2⟩:=List.pairwise_cons.1 hl
  obtain⟨hm1,hm2⟩:=List.pairwise_cons.1 hm
  have e:a=b:=by
   rcases List.mem_cons.1 ((h a).1 List.mem_cons_self)with e|ha
   ·exact e
   ·rcases List.mem_cons.1 ((h b).2 List.mem_cons_self)with e|hb
    ·exact e.symm
    ·exact absurd (qj (hm1 a ha) (hl1 b hb)) (kS b)
  subst e
  rw[wM hl2 hm2 (fun x=>?_)]
  constructor
  ·intro hx
   rcases List.mem_cons.1 ((h x).1 (List.mem_cons_of_mem _ hx))with e|hx'
   ·subst e;exact absurd (hl1 x hx) (kS x)
   ·exact hx'
  ·intro hx
   rcases List.mem_cons.1 ((h x).2 (List.mem_cons_of_mem _ hx))with e|hx'
   ·subst e;exact absurd (hm1 x hx) (kS x)
   ·exact hx'
theorem pv {x y:Int×List Int}: ∀{l:List (Int×List Int)},y∈np x l↔y=x\/y∈l
 |[]=>by simp[np]
 |a::l=>by
  unfold np
  split
  ·rw[List.mem_cons,pv,List.mem_cons]
   constructor
   ·rintro(h|h|h)
    ·exact .inr (.inl h)
    ·exact .inl h
    ·exact .inr (.inr h)
   ·rintro(h|h|h)
    ·exact .inr (.inl h)
    ·exact .inl h
    ·exact .inr (.inr h)
  ·split
   ·rw[List.mem_cons]
   ·rename_i h1 h2
    have e:=l7 h2 h1
    constructor
    ·exact .inr
    ·rintro(h|h)
     ·rw[h,e];exact List.mem_cons_self
     ·exact h
theorem sU {x:Int×List Int}: ∀{l:List (Int×List Int)},wK l->wK (np x l)
 |[],_=>by simp[np,wK]
 |a::l,h=>by
  obtain⟨h1,h2⟩:=List.pairwise_cons.1 h
  unfold np
  split
  ·rename_i hlt
   refine List.pairwise_cons.2 ⟨fun y hy=>?_,sU h2⟩
   rcases pv.1 hy with e|hy
   ·rw[e];exact hlt
   ·exact h1 y hy
  ·split
   ·rename_i hlt
    refine List.pairwise_cons.2 ⟨fun y hy=>?_,h⟩
    rcases List.mem_cons.1 hy with e|hy
    ·rw[e];exact hlt
    ·exact qj hlt (h1 y hy)
   ·exact h
theorem nM: ∀(l acc:List (Int×List Int)),wK acc->wK (l.foldl (fun acc x=>np x acc) acc)/\ ∀y,y∈l.foldl (fun acc x=>np x acc) acc↔y∈l\/y∈acc
 |[],acc,h=>⟨h,fun y=>by simp⟩
 |x::l,acc,h=>by
  obtain⟨h1,h2⟩:=nM l (np x acc) (sU h)
  refine⟨h1,fun y=>?_⟩
  show y∈l.foldl _ (np x acc)↔_
  rw[h2,pv,List.mem_cons]
  constructor
  ·rintro(h|h|h)
   ·exact .inl (.inr h)
   ·exact .inl (.inl h)
   ·exact .inr h
  ·rintro((h|h)|h)
   ·exact .inr (.inl h)
   ·exact .inl h
   ·exact .inr (.inr h)
theorem x9 (l:List (Int×List Int)):wK (il l):=(nM l [] (by simp[wK])).1
theorem yB {l:List (Int×List Int)} {y:Int×List Int}:y∈il l↔y∈l:=by
 unfold il;rw[(nM l [] (by simp[wK])).2];simp
theorem oO {a b:NItem}:fA a b<0↔uq a.dat b.dat:=by unfold fA uq;rw[rI];rfl
theorem sV {a b:NItem}:oa a b=true↔a.dat=b.dat:=by
 unfold oa fA
 rw[beq_iff_eq,yw]
 constructor
 ·rintro⟨h1,h2⟩;exact Prod.ext h1 h2
 ·intro h;exact⟨congrArg Prod.fst h,congrArg Prod.snd h⟩
theorem mW: ∀{l:List NItem} {p:NItem},(∀(i j:Nat) a b,i<j->(p::l)[i]?=some a->(p::l)[j]?=some b-> ¬fA b a<0)->
  wK ((p::dF p l).map NItem.dat)/\ ∀y,y∈(p::dF p l).map NItem.dat↔y∈(p::l).map NItem.dat
 |[],p,_=>by simp[dF,wK]
 |b::l,p,h=>by
  have hs: ∀(i j:Nat) a c,i<j->(b::l)[i]?=some a->(b::l)[j]?=some c-> ¬fA c a<0:=fun i j a c hij ha hc=>h (i+1) (j+1) a c (by omega) (by simpa using ha) (by simpa using hc)
  obtain⟨h1,h2⟩:=mW hs
  have hpb: ¬fA b p<0:=h 0 1 p b (by omega) rfl rfl
  unfold dF
  split
  ·rename_i e
   rw[sV]at e
   simp only[List.map_cons]at h1 h2⊢
   rw[<- e]
   refine⟨h1,fun y=>?_⟩
   rw[h2 y]
   simp
  ·rename_i e
   rw[sV]at e
   refine⟨?_,fun y=>?_⟩
   ·rw[List.map_cons]
    refine List.pairwise_cons.2 ⟨fun y hy=>?_,h1⟩
    rw[h2 y]at hy
    obtain⟨c,hc,rfl⟩:=List.mem_map.1 hy
    obtain⟨j,hj,hjc⟩:=List.getElem_of_mem hc
    have q: ¬fA c p<0:=h 0 (j+1) p c (by omega) rfl (by simp;rw[List.getElem?_eq_getElem hj,hjc])
    rw[oO]at q
    by_cases hlt:uq p.dat c.dat
    ·exact hlt
    ·have e2:=l7 q hlt
     exfalso
     have q2: ¬fA c b<0:=by
      cases j with
      |zero=>simp at hjc;subst hjc;unfold fA;rw[rI,fD];omega
      |succ j=>exact hs 0 (j+1) b c (by omega) rfl (by rw[List.getElem?_eq_getElem hj,hjc])
     rw[oO,e2]at q2
     rw[oO]at hpb
     exact e (l7 hpb q2)
   ·rw[List.map_cons,List.mem_cons,h2 y]
    simp
theorem rG {L:List NItem} {ks:List (Int×List Int)} (hp:(L.map NItem.dat).Perm ks) (hs:lf L):(bY L).map NItem.dat=il ks:=by
 have hc:wK ((bY L).map NItem.dat)/\ ∀y,y∈(bY L).map NItem.dat↔y∈L.map NItem.dat:=by
  cases L with
  |nil=>simp[bY,wK]
  |cons a l=>exact mW hs
 refine wM hc.1 (x9 ks) (fun x=>?_)
 rw[hc.2 x,yB]
 exact hp.mem_iff
theorem lk {L:List NItem} {ks:List (Int×List Int)} (hp:(L.map NItem.dat).Perm ks) (hs:lf L):(bY L).map NItem.vals=(il ks).map Prod.snd:=by
 rw[<- rG hp hs,List.map_map]
 rfl
def Fo (w':World) (r:Option (List (Int×List Int))) (e:Ending):Prop:=match r with
 |none=>e= .returned (.tuple #[.slice none 0 0,.bool false])
 |some ks=> ∃A,e= .returned (.tuple #[.slice A ((il ks).map Prod.snd).length ((il ks).map Prod.snd).length,.bool true])/\iA .i64 w' A ((il ks).map Prod.snd)
def Fz (k0:Nat) (w':World) (r:Option (List (Int×List Int))) (e:Ending):Prop:=match r with
 |none=>e= .returned (.tuple #[.slice none 0 0,.bool false])
 |some ks=> ∃A,e= .returned (.tuple #[.slice A ((il ks).map Prod.snd).length ((il ks).map Prod.snd).length,.bool true])/\DJ k0 w' A ((il ks).map Prod.snd)
theorem vS.plain {k0:Nat} {w':World} {r:Option (List (Int×List Int))} {e:Ending} (h:vS k0 w' r e):Fo w' r e/\Fz k0 w' r e:=by
 cases r with
 |none=>exact⟨h,h⟩
 |some ks=>
  obtain⟨L,hp,hs,A,he,hrd,hnew⟩:=h
  rw[lk hp hs]at hrd hnew
  have he2:e= .returned (.tuple #[.slice A ((il ks).map Prod.snd).length ((il ks).map Prod.snd).length,.bool true]):=by
   rw[<- lk hp hs];simpa using he
  exact⟨⟨A,he2,hrd⟩,A,he2,hnew⟩
theorem mA (A B:Option Addr) (c d:Nat) (rows l:List (List Int)) (w:World) (hR:iA .i64 w A rows) (hl:iA .i64 w B l) (lr:rows.length<=9223372036854775807) (hc:rows.length<=c) (ll:l.length<=65536):
  Calls Tryz.prog 14 #[.slice A rows.length c,.slice B l.length d] w fun e w'=>Fo w' (if dv rows then fl rows l else none) e/\Ext w w':=
 (nO A B c d rows l w hR hl lr hc ll).mono fun _ _ ⟨h1,h2⟩=>⟨h1.plain.1,h2⟩
theorem zn (A B:Option Addr) (c d:Nat) (a b:List (List Int)) (w:World) (ha:iA .i64 w A a) (hb:iA .i64 w B b) (la:a.length<=9223372036854775807) (lb:b.length<=9223372036854775807):
  Calls Tryz.prog 13 #[.slice A a.length c,.slice B b.length d] w fun e w'=>e= .returned (.bool (decide (a=b)))/\Ext w w':=by
 have HA:=Lib.hid ha
 have HB:=Lib.hid hb
 clear ha hb
 by_cases hl:a.length=b.length
 ·have hlb:((a.length:Int) !=(b.length:Int))=false:=by simp[hl]
  have HL:=Lib.hid hl
  have hle:a.length<=b.length:=by omega
  clear hl
  go_enter Tryz.func13,Tryz.ntmps13
  go_wp2_with fail
  clear hlb
  go_loopw [13,5] (fun i _ wr=> ∃k:Nat,k<=a.length/\i= .int .i64 k/\Hid (Ext w wr)/\Hid (∀j,j<k->a[j]?=b[j]?)) (fun i _ _=>a.length-(intOf i).toNat)
  case atStart=>exact⟨0,Nat.zero_le _,rfl,Lib.hid (Ext.refl _),Lib.hid (fun j h=>by omega)⟩
  case round=>
   obtain⟨k,hk,rfl,HE,HQ⟩:=hrel
   by_cases hlt:k<a.length
   ·obtain⟨x,hx⟩:=getElem?_of_lt hlt
    obtain⟨y,hy⟩:=getElem?_of_lt (l:=b) (k:=k) (by omega)
    obtain⟨b1,o1,B1,c1,rfl,hc1,hcl1,hlx,hr1⟩:=(HA.out.ext HE.out.drew).at_ hx
    obtain⟨b2,o2,B2,c2,rfl,hc2,hcl2,hly,hr2⟩:=(HB.out.ext HE.out.drew).at_ hy
    have HX:=Lib.hid hx
    have HY:=Lib.hid hy
    have HR1:=Lib.hid hr1
    have HR2:=Lib.hid hr2
    have HE1:=Lib.hid HE.out.drew
    have hkb:(k:Int)<(b.length:Int):=by omega
    clear hx hy hr1 hr2 HE
    go_wp2_with fail
    refine de 8 (by kernel_rfl) (by kernel_rfl) ?_
    simp only[List.take_succ_cons,List.take_zero,List.drop_succ_cons,List.drop_zero]
    generalize wr.drew=w3 at*
    iterate 8 still_step
    refine wpStill_nil ?_
    have HC:=Lib.hid (jr B1 B2 c1 c2 x y w3 HR1.out HR2.out hlx hly)
    clear hc1 hc2
    by_cases h0:dt x y=0
    ·have h0':(dt x y !=0)=false:=by simp[h0]
     have H0:=Lib.hid h0
     clear h0
     go_wp2_with fail
     refine HC.out.mono ?_
     rintro e w4 ⟨rfl,n,rfl⟩
     go_wp2_with fail
     go_roundw
     case rel=>
      refine⟨k+1,by omega,by go_num,Lib.hid (HE1.out.drewN n),Lib.hid (fun j hj=>?_)⟩
      by_cases e:j=k
      ·subst e;rw[HX.out,HY.out,jY H0.out]
      ·exact HQ.out j (by omega)
     case measure=>simp[intOf];omega
    ·have h0':(dt x y !=0)=true:=by simp[h0]
     go_wp2_with fail
     refine HC.out.mono ?_
     rintro e w4 ⟨rfl,n,rfl⟩
     go_wp2_with fail
     go_ret
     refine⟨dO (fun h=>?_),HE1.out.drewN n⟩
     subst h
     have h1:=HX.out
     rw[HY.out]at h1
     cases h1
     exact h0 (fD _)
   ·go_wp2_with fail
    go_ret
    refine⟨rr ?_,HE.out⟩
    apply List.ext_getElem?
    intro j
    rcases Nat.lt_or_ge j a.length with h|h
    ·exact HQ.out j (by omega)
    ·rw[List.getElem?_eq_none h,List.getElem?_eq_none (by have:=HL.out;omega)]
 ·have hlb:((a.length:Int) !=(b.length:Int))=true:=by simp;omega
  go_enter Tryz.func13,Tryz.ntmps13
  go_wp2_with fail
  go_ret
  exact⟨dO (fun h=>hl (by rw[h])),Ext.refl _⟩
theorem xa {w:World} {b:Nat} {x y:Int} (h0:w.cell? ⟨b,0,none⟩=some (.int .i64 x)) (h1:w.cell? ⟨b,1,none⟩=some (.int .i64 y)):RdI .i64 w (some ⟨b,0,none⟩) [x,y]:=fun _=>⟨b,0,rfl,fun i u hu=>by
 match i,hu with
 |0,hu=>simp at hu;subst hu;exact h0
 |1,hu=>simp at hu;subst hu;exact h1⟩
theorem qL {w:World} {b:Nat} {x y z:Int} (h0:w.cell? ⟨b,0,none⟩=some (.int .i64 x)) (h1:w.cell? ⟨b,1,none⟩=some (.int .i64 y)) (h2:w.cell? ⟨b,2,none⟩=some (.int .i64 z)):RdI .i64 w (some ⟨b,0,none⟩) [x,y,z]:=fun _=>⟨b,0,rfl,fun i u hu=>by
 match i,hu with
 |0,hu=>simp at hu;subst hu;exact h0
 |1,hu=>simp at hu;subst hu;exact h1
 |2,hu=>simp at hu;subst hu;exact h2⟩
theorem gm {w:World} {b:Nat} {x y:Int} (h0:w.cell? ⟨b,0,none⟩=some (.int .i64 x)) (h1:w.cell? ⟨b,1,none⟩=some (.int .i64 y)):DB .i64 w (.slice (some ⟨b,0,none⟩) 2 2) [x,y]:=
 ⟨some ⟨b,0,none⟩,2,rfl,by simp,by simp,xa h0 h1⟩
def n5:List (List Int):=[[2,1],[1,2]]
theorem x4:(if dv n5 then fl n5 [[-1,1],[0,2],[1,-1],[1,0]]else none)=some [(2,[1,-1]),(8,[0,2]),(2,[1,-1]),(2,[1,0])]:=by decide+kernel
theorem za:(il [(2,[1,-1]),(8,[0,2]),(2,[1,-1]),(2,[1,0])]).map Prod.snd=[[1,-1],[1,0],[0,2]]:=by decide+kernel
theorem At:f7 n5 [1,-1] [1,-1]= .tuple #[.int .i64 2,.bool true]:=by
 unfold f7
 rw[if_pos (by decide+kernel)]
 rw[show fj [1,-1] (eo n5 [1,-1]) [1,-1].length=2 from by decide+kernel]
 rfl
theorem xC:gM [0,-3,1]=some [0,3,-1]:=by decide+kernel
theorem Ee (w W:World) (A B:Option Addr) (hE:Ext w W) (h1:iA .i64 W A n5) (h2:iA .i64 W B [[-1,1],[0,2],[1,-1],[1,0]]):
  Calls Tryz.prog 14 #[.slice A 2 2,.slice B 4 4] W fun e w'=> ∃C,e= .returned (.tuple #[.slice C 3 3,.bool true])/\iA .i64 w' C [[1,-1],[1,0],[0,2]]/\iA .i64 w' A n5/\Ext w w':=by
 refine(mA A B 2 4 n5 _ W h1 h2 (by decide) (by decide) (by decide)).mono fun e w' ⟨hs,he⟩=>?_
 rw[x4]at hs
 obtain⟨C,hr,hrd⟩:=hs
 rw[za]at hr hrd
 exact⟨C,hr,hrd,h1.ext he,hE.trans he⟩
theorem ze (w W:World) (A B C:Option Addr) (hE:Ext w W) (h1:iA .i64 W A n5) (h2:RdI .i64 W B [1,-1]) (h3:iA .i64 W C [[1,-1],[1,0],[0,2]]):
  Calls Tryz.prog 15 #[.slice A 2 2,.slice B 2 2] W fun e w'=>e= .returned (.tuple #[.int .i64 2,.bool true])/\iA .i64 w' C [[1,-1],[1,0],[0,2]]/\Ext w w':=by
 refine(zA A B 2 2 n5 [1,-1] W h1 h2 (by decide) (by decide) (by decide)).mono fun e w' ⟨hs,he⟩=>?_
 rw[At]at hs
 exact⟨hs,h3.ext he,hE.trans he⟩
theorem yp (w W:World) (B C:Option Addr) (hE:Ext w W) (h2:RdI .i64 W B [0,-3,1]) (h3:iA .i64 W C [[1,-1],[1,0],[0,2]]):
  Calls Tryz.prog 16 #[.slice B 3 3] W fun e w'=> ∃D c,e= .returned (.tuple #[.slice D 3 c,.bool true])/\RdI .i64 w' D [0,3,-1]/\iA .i64 w' C [[1,-1],[1,0],[0,2]]/\Ext w w':=by
 refine(fq B 3 [0,-3,1] W h2 (by decide)).mono fun e w' ⟨hs,he⟩=>?_
 rw[xC]at hs
 obtain⟨D,c,hr,_,hrd,_⟩:=hs
 exact⟨D,c,hr,hrd,h3.ext he,hE.trans he⟩
theorem zm (w W:World) (A C D:Option Addr) (hE:Ext w W) (h1:iA .i64 W A [[1,-1],[1,0],[0,2]]) (h2:iA .i64 W C [[1,-1],[1,0],[0,2]]) (h3:RdI .i64 W D [0,3,-1]):
  Calls Tryz.prog 13 #[.slice A 3 3,.slice C 3 3] W fun e w'=>e= .returned (.bool true)/\RdI .i64 w' D [0,3,-1]/\Ext w w':=
 (zn A C 3 3 _ _ W h1 h2 (by decide) (by decide)).mono fun e w' ⟨hs,he⟩=>⟨by rw[hs];simp,h3.ext he,hE.trans he⟩
theorem uc (w W:World) (D E:Option Addr) (c:Nat) (hE:Ext w W) (h1:RdI .i64 W D [0,3,-1]) (h2:RdI .i64 W E [0,3,-1]):
  Calls Tryz.prog 17 #[.slice D 3 c,.slice E 3 3] W fun e w'=>e= .returned (.int .i64 0)/\Ext w w':=
 (jr D E c 3 _ _ W h1 h2 (by decide) (by decide)).mono fun e w' ⟨hs,n,hw⟩=>⟨by rw[hs,fD],by rw[hw];exact hE.drewN n⟩
theorem yL (w:World):Calls Tryz.prog 5 #[] w fun e w'=>e= .returned (.bool true)/\Ext w w':=by
 go_enter Tryz.func5,Tryz.ntmps5
 go_wp2_with fail
 refine(Ee w _ _ _ ?_ ?_ ?_).mono ?_
 ·repeat (first|exact Ext.refl _|refine Ext.alloc ?_ _)
 ·exact fun _=>⟨_,0,rfl,fun i r hr=>by
   match i,hr with
   |0,hr=>simp[n5]at hr;subst hr;exact⟨.slice (some ⟨w.heap.size,0,none⟩) 2 2,by go_simp,gm (by go_simp) (by go_simp)⟩
   |1,hr=>simp[n5]at hr;subst hr;exact⟨.slice (some ⟨w.heap.size+1,0,none⟩) 2 2,by go_simp,gm (by go_simp) (by go_simp)⟩⟩
 ·exact fun _=>⟨_,0,rfl,fun i r hr=>by
   match i,hr with
   |0,hr=>simp at hr;subst hr;exact⟨.slice (some ⟨w.heap.size+1+1+1,0,none⟩) 2 2,by go_simp,gm (by go_simp) (by go_simp)⟩
   |1,hr=>simp at hr;subst hr;exact⟨.slice (some ⟨w.heap.size+1+1+1+1,0,none⟩) 2 2,by go_simp,gm (by go_simp) (by go_simp)⟩
   |2,hr=>simp at hr;subst hr;exact⟨.slice (some ⟨w.heap.size+1+1+1+1+1,0,none⟩) 2 2,by go_simp,gm (by go_simp) (by go_simp)⟩
   |3,hr=>simp at hr;subst hr;exact⟨.slice (some ⟨w.heap.size+1+1+1+1+1+1,0,none⟩) 2 2,by go_simp,gm (by go_simp) (by go_simp)⟩⟩
 rintro e w1 ⟨C,rfl,hC,hH,he⟩
 have HC:=Lib.hid hC
 have HH:=Lib.hid hH
 have HE:=Lib.hid he
 clear hC hH he
 go_wp2_with fail
 refine(ze w _ _ _ C ?_ ?_ ?_ ?_).mono ?_
 ·exact HE.out.alloc _
 ·exact HH.out.ext ((Ext.refl _).alloc _)
 ·exact xa (by go_simp) (by go_simp)
 ·exact HC.out.ext ((Ext.refl _).alloc _)
 rintro e w2 ⟨rfl,hC,he⟩
 have HC2:=Lib.hid hC
 have HE2:=Lib.hid he
 clear hC he HC HH HE
 go_wp2_with fail
 refine(yp w _ _ C ?_ ?_ ?_).mono ?_
 ·exact HE2.out.alloc _
 ·exact qL (by go_simp) (by go_simp) (by go_simp)
 ·exact HC2.out.ext ((Ext.refl _).alloc _)
 rintro e w3 ⟨D,c,rfl,hD,hC,he⟩
 have HD:=Lib.hid hD
 have HC3:=Lib.hid hC
 have HE3:=Lib.hid he
 clear hC he hD HC2 HE2
 go_wp2_with fail
 refine(zm w _ _ _ D ?_ ?_ ?_ ?_).mono ?_
 ·repeat (first|exact HE3.out|refine Ext.alloc ?_ _)
 ·exact HC3.out.ext (by repeat (first|exact Ext.refl _|refine Ext.alloc ?_ _))
 ·exact fun _=>⟨_,0,rfl,fun i r hr=>by
   match i,hr with
   |0,hr=>simp at hr;subst hr;exact⟨.slice (some ⟨w3.heap.size,0,none⟩) 2 2,by go_simp,gm (by go_simp) (by go_simp)⟩
   |1,hr=>simp at hr;subst hr;exact⟨.slice (some ⟨w3.heap.size+1,0,none⟩) 2 2,by go_simp,gm (by go_simp) (by go_simp)⟩
   |2,hr=>simp at hr;subst hr;exact⟨.slice (some ⟨w3.heap.size+1+1,0,none⟩) 2 2,by go_simp,gm (by go_simp) (by go_simp)⟩⟩
 ·exact HD.out.ext (by repeat (first|exact Ext.refl _|refine Ext.alloc ?_ _))
 rintro e w4 ⟨rfl,hD,he⟩
 have HD4:=Lib.hid hD
 have HE4:=Lib.hid he
 clear he hD HC3 HE3 HD
 go_wp2_with fail
 refine(uc w _ D _ c ?_ ?_ ?_).mono ?_
 ·exact HE4.out.alloc _
 ·exact HD4.out.ext ((Ext.refl _).alloc _)
 ·exact qL (by go_simp) (by go_simp) (by go_simp)
 rintro e w5 ⟨rfl,he⟩
 have HE5:=Lib.hid he
 clear he HE4 HD4
 go_wp2_with fail
 go_ret
 exact⟨rfl,HE5.out⟩
theorem CV:CallC Tryz.prog 5 [] ⟨[],.raw (.bool true)⟩:=by
 refine qB (by kernel_rfl) fun X w vs hX hvs ha=>?_
 obtain rfl:vs= #[]:=by
  apply Array.ext_getElem?
  intro j
  rw[Array.getElem?_eq_none (by simp at hvs;simp[hvs])];rfl
 exact(yL w).mono fun e w' ⟨h1,h2⟩=>⟨_,h1,fun _ _ _=>BG _,h2⟩
theorem CallC.law {P:Program} {f:FuncId} {args:List TV} {b:Bool} (h:CallC P f args ⟨[],.raw (.bool b)⟩) {w:World} {vs:Array Value} (hvs:vs.size=args.length)
  (ha: ∀(j:Nat) t,args[j]?=some t-> ∃v:Value,vs[j]?=some v/\t.rel (fun _ _=>none) (fun _=>[]) (fun _=>False) w v):Calls P f vs w fun e w'=>e= .returned (.bool b)/\Ext w w':=
 (h.calls hvs ha).mono fun e w' ⟨v,h1,⟨ρ,H,X,h2⟩,h3⟩=>⟨by rw[h1,l6 h2],h3⟩
theorem Ea {P:Program} {fn:Func} {s:AS} {r:TV} (k:Nat) (hk:s.tmps[k]?=some (.raw (.slice none 0 0))) (hd:s.H 1000=[]) (h:bK P ⟨s.tmps.set k (.one (.p (.sl []))),s.H⟩ fn.results.toList=some r) (hp:noRefTV r=true): ∃s',du s s'/\qI P fn ⟨[],r⟩ s':=
 ⟨_,CK k hk,lh hd h hp⟩
end Go.Proofs.YtpgghglbpcabkaaGreat
