/-
  Part 1 of a proof (walks and plain facts).
-/
import Derived.Test.YtalmoejhjceflaaGreatRows
import Derived.WalkKit
import Derived.WalkSpells
import Derived.WalkLawsBesides
import Derived.Deep.QuietTactic
import Derived.BigQuiet
import Derived.Lib.Hide
import Derived.Deep.Draws
import Derived.Deep.AppendLies
import Derived.Laws.OwnMore
import Derived.ProofKit
import Derived.OpenShut
import Derived.ShutString
import Derived.ChangeOld
import Derived.Below
import Derived.SizedLaws
import Derived.Deep.OwnRows
import Derived.Deep.LoopGhost
import Derived.Deep.Light
import Derived.Deep.Cut
import Derived.Deep.CutRange
import Derived.CellFam
import Derived.BigGuard
import Derived.BigRegion
import Derived.Maps.AppendAt
import Derived.RegionTactic
import Derived.OwnWalk
import Derived.Shelf.Spec.BitsCarry
import Derived.Shelf.Bits.Mul64
set_option linter.all false
set_option maxRecDepth 100000
set_option maxHeartbeats 64000000
namespace Go.Proofs.YtalmoejhjceflaaGreat
open Go.RowKit Go.Proofs.Tryz
def XH:=@List.mem_of_getElem?.{0}
def XI:=@Option.map_eq_some_iff.{0,0}
def XJ:=@And.intro
def XK:=@List.getElem?_map.{0,0}
def XL:=@Lib.hid
def XM:=@Result.andThen_ok
def XN:=@List.getElem?_eq_some_iff.{0}
def XO:=@List.all_eq_true.{0}
def XP:=@Sem.run_bind
def XQ:=@Nat.le_trans
def XR:=@List.mem_map.{0,0}
def XS:=@List.getElem?_append_left.{0}
def XT:=@List.mem_singleton.{0}
def XU:=@Nat.mul_le_mul_left
def XV:=@Array.getElem?_eq_some_iff.{0}
def XW:=@List.getElem?_append_right.{0}
def XX:=@Nat.mul_le_mul_right
def XY:=@Nat.le_refl
def XZ:=@Nat.lt_of_lt_of_le
def X0:=@List.getElem?_eq_getElem.{0}
def X3:=@List.take_of_length_le.{0}
def X4:=@Option.bind_eq_some_iff.{0,0}
def X5:=@Int.mul_le_mul_of_nonneg_left
def X6:=@Nat.pow_le_pow_left
def X7:=@List.ext_getElem?.{0}
def X8:=@Array.getElem?_append_left.{0}
def X9:=@List.map_cons.{0,0}
def Ya:=@List.range_eq_range'
def Yb:=@Sem.run_pure
def Yc:=@List.map_congr_left.{0,0}
def Yd:=@Nat.pow_le_pow_right
def Ye:=@List.append_assoc.{0}
def Yf:=@List.getD_eq_getElem?_getD.{0}
def Yg:=@Int.eq_ofNat_of_zero_le
def Yh:=@Bool.and_eq_true
def Yi:=@Array.getElem?_append_right.{0}
def Yj:=@Int.mul_nonneg
def Yk:=@Nat.mod_lt
def Yl:=@List.getElem?_take.{0}
def Ym:=@List.length_cons.{0}
def Yn:=@Nat.mul_le_mul
def Yo:=@List.mem_cons.{0}
def Yp:=@Option.map_some.{0,0}
def Yq:=@List.length_replicate.{0}
def Yr:=@List.getElem?_drop.{0}
def Ys:=@Int.mul_le_mul_of_nonneg_right
def Yt:=@Nat.zero_le
def Yu:=@List.map_nil.{0,0}
def Yv:=@List.mem_range
def Yw:=@Nat.zero_add
def Yx:=@Int.mul_nonneg_of_nonpos_of_nonpos
def Yy:=@List.getElem?_set_ne.{0}
def Yz:=@List.getElem?_set.{0}
def YA:=@Nat.add_zero
def YB:=@List.length_map.{0,0}
def YC:=@Array.getElem?_map.{0,0}
def YD:=@Bool.false_eq_true
def YE:=@IntKind.wrap_u64
def YF:=@List.getElem?_replicate.{0}
def YG:=@Int.mul_le_mul
def YH:=@Option.bind_some.{0,0}
def YI:=@List.append_nil.{0}
def YJ:=@List.length_append.{0}
def YK:=@List.mem_append.{0}
def YL:=@Nat.add_mul
def YM:=@List.range'_succ
def YN:=@List.map_append.{0,0}
def YO:=@List.mem_or_eq_of_mem_set.{0}
def YP:=@Nat.pow_pos
def YQ:=@Nat.mul_comm
def YR:=@List.mem_cons_of_mem.{0}
def YS:=@List.mem_of_mem_drop.{0}
def YT:=@List.mem_of_mem_take.{0}
def YU:=@List.range_succ
def YV:=@List.mem_cons_self.{0}
def YW:=@List.size_toArray.{0}
def YX:=@Option.isNone_none.{0}
def YY:=@List.mem_iff_getElem?.{0}
def YZ:=@List.getElem_of_mem.{0}
def Y0:=@List.map_map.{0,0,0}
def Y1:=@Int.natAbs_mul
def Y2:=@List.length_eq_zero_iff.{0}
def Y3:=@List.not_mem_nil.{0}
def Y4:=@Option.getD_some.{0}
def Y5:=@Nat.lt_trichotomy
def Y6:=@List.drop_eq_getElem_cons.{0}
def Y7:=@Nat.div_div_eq_div_mul
def Y8:=@Array.getElem?_replicate.{0}
def Y9:=@List.length_take.{0}
def Za:=@Classical.choose_spec.{1}
def Zb:=@Nat.div_lt_iff_lt_mul
def Zc:=@Array.getD_eq_getD_getElem?.{0}
def Zd:=@Nat.pow_succ
def Ze:=@List.getElem?_cons_succ.{0}
def Zf:=@Nat.le_mul_of_pos_right
def Zg:=@List.range'_append_1
def Zh:=@List.filter_eq_nil_iff.{0}
def Zi:=@List.getElem?_set_self.{0}
def Zj:=@Nat.sub_self
def Zk:=@List.take_succ_cons.{0}
def Zl:=@Ne.symm.{1}
def Zm:=@List.set_append_right.{0}
def Zn:=@Int.ediv_nonneg
def Zo:=@Option.map_none.{0,0}
def Zp:=@List.pairwise_cons.{0}
def Zq:=@Addr.add_lit
def Zr:=@Int.tdiv_eq_ediv_of_nonneg
def Zs:=@List.drop_zero.{0}
def Zt:=@List.drop_succ_cons.{0}
def Zu:=@List.length_nil.{0}
def Zv:=@Nat.div_add_mod
def Zw:=@Array.getElem?_setIfInBounds_ne.{0}
def Zx:=@Int.eq_of_mul_eq_mul_left
def Zy:=@IntKind.wrap_u32
def Zz:=@List.mem_replicate.{0}
def ZA:=@List.zipIdx_cons.{0}
def ZB:=@Nat.lt_of_le_of_lt
def ZC:=@Nat.mod_eq_of_lt
def ZD:=@Array.getElem?_setIfInBounds_self_of_lt.{0}
def ZE:=@Int.le_of_lt
def ZF:=@List.drop_eq_nil_iff.{0}
def ZG:=@List.eq_nil_of_length_eq_zero.{0}
def ZH:=@Nat.one_mul
def ZI:=@Nat.pow_add
def ZJ:=@Bool.or_eq_true
def ZK:=@Int.lt_ediv_add_one_mul_self
def ZL:=@Int.le_ediv_iff_mul_le
def ZM:=@Int.le_total
def ZN:=@List.drop_of_length_le.{0}
def ZO:=@Nat.mul_lt_mul_of_pos_right
def ZP:=@Nat.mul_assoc
def ZQ:=@Int.le_of_not_gt
def ZR:=@List.all_replicate.{0}
def ZS:=@Nat.lt_of_mul_lt_mul_right
def ZT:=@List.length_filter_le.{0}
def ZU:=@List.ne_nil_of_length_pos.{0}
def ZV:=@List.nil_append.{0}
def ZW:=@Nat.div_le_self
def ZX:=@Int.lt_or_le
def ZY:=@IntWalk.wrap64_in
def ZZ:=@List.filter_congr.{0}
def Z0:=@List.length_range
def Z1:=@List.map_id.{0}
def Z2:=@List.replicate_succ'.{0}
def Z3:=@Nat.add_comm
def Z4:=@Nat.div_lt_of_lt_mul
def Z5:=@List.replicate_succ.{0}
def Z6:=@List.cons_append.{0}
def Z7:=@List.map_toArray.{0,0}
def Z8:=@List.take_zero.{0}
def Z9:=@Nat.div_eq_of_lt
def aaa:=@Int.le_refl
def aab:=@Nat.le_mul_of_pos_left
def aac:=@Nat.le_of_lt
def aad:=@Nat.lt_or_ge
def aae:=@Nat.zero_mul
def aaf:=@Nat.add_assoc
def aag:=@List.getElem?_eq_none.{0}
def aah:=@World.ownsRow_nil
def aai:=@List.takeWhile_cons_of_pos.{0}
def aaj:=@Mul64.wrapN
def aak:=@Below.heap_alloc
def aal:=@Int.ediv_le_self
def aam:=@List.drop_length.{0}
def aan:=@List.flatMap_nil.{0,0}
def aao:=@Array.getElem?_eq_getElem.{0}
def aap:=@Int.le_of_mul_le_mul_left
def aaq:=@Array.length_toList.{0}
def aar:=@List.filter_eq_self.{0}
def aas:=@Int.mul_tdiv_cancel_left
def aat:=@List.mem_filter.{0}
def aau:=@List.zipIdx_nil.{0}
def aav:=@Nat.min_eq_left
def aaw:=@Int.mul_nonpos_of_nonneg_of_nonpos
def aax:=@World.ownsRow_made
def aay:=@List.getElem?_cons_zero.{0}
def aaz:=@IntWalk.i64_in
def aaA:=@List.flatMap_cons.{0,0}
def aaB:=@List.mem_range'_1
def aaC:=@List.take_succ_eq_append_getElem.{0}
def aaD:=@Nat.le_div_iff_mul_le
def aaE:=@List.eq_nil_iff_forall_not_mem.{0}
def aaF:=@List.isEmpty_iff.{0}
def aaG:=@Nat.le_of_not_lt
def aaH:=@World.rowIs_made
def aaI:=@Int.ediv_emod_unique
def aaJ:=@World.cell?_alloc_lt
def aaK:=@Int.mul_ediv_mul_of_pos_left
def aaL:=@Nat.mul_add_div
def aaM:=@Nat.mul_add_mod
def aaN:=@Nat.two_pow_pos
def aaO:=@Function.comp_apply.{1,1,1}
def aaP:=@List.replicate_zero.{0}
def aaQ:=@Nat.div_mul_le_self
def aaR:=@List.map_set.{0,0}
def aaS:=@Below.heap_setCell
def aaT:=@Int.emod_lt_of_pos
def aaU:=@Int.tmod_eq_emod_of_nonneg
def aaV:=@List.mem_filterMap.{0,0}
def aaW:=@List.getElem?_eq_none_iff.{0}
def aaX:=@List.mem_of_find?_eq_some.{0}
def aaY:=@Nat.le_of_mul_le_mul_left
def aaZ:=@World.cell?_setCell_other
def aa0:=@Array.isEmpty_iff.{0}
def aa1:=@Int.mul_pos
def aa2:=@Int.natAbs_add_le
def aa3:=@List.isEmpty_cons.{0}
def aa4:=@Nat.mul_left_comm
def aa5:=@Nat.mul_one
def aa6:=@Nat.mul_pos
def aa7:=@World.rowIs_alloc
def aa8:=@Bool.false_or
def aa9:=@Bool.true_and
def aba:=@Bool.not_eq_true
def abb:=@List.mem_flatMap.{0,0}
def abc:=@Nat.le_add_right
def abd:=@Nat.lt_succ_self
def abe:=@Nat.succ_pred_eq_of_pos
def abf:=@WalkArith.wf_i64
def abg:=@List.length_pos_of_mem.{0}
def abh:=@World.frozen?_of_block
def abi:=@Int.ediv_mul_le
def abj:=@Int.emod_nonneg
def abk:=@Int.mul_ne_zero
def abl:=@Lib.half_mul_le
def abm:=@Int.emod_add_mul_ediv
def abn:=@Int.le_ediv_of_mul_le
def abo:=@Lib.run_eql_slice_nil
def abp:=@Array.getElem_of_mem.{0}
def abq:=@Bool.false_and
def abr:=@List.getElem?_mapIdx.{0,0}
def abs:=@Maps.int_keyed
def abt:=@Nat.add_le_add_right
def abu:=@Nat.pow_lt_pow_right
def abv:=@Int.ediv_mul_cancel
def abw:=@List.getElem?_range
def abx:=@List.length_flatMap.{0,0}
def aby:=@List.map_eq_nil_iff.{0,0}
def abz:=@Bool.not_true
def abA:=@Bool.or_false
def abB:=@Int.mul_assoc
def abC:=@Nat.lt_irrefl
def abD:=@Array.foldl_toList.{0,0}
def abF:=@Int.natCast_nonneg
def abG:=@Int.sub_eq_add_neg
def abH:=@List.filter_append.{0}
def abI:=@List.map_replicate.{0,0}
def abJ:=@List.set_cons_zero.{0}
def abK:=@Nat.mul_div_cancel
def abL:=@Nat.mul_right_comm
def abP:=@Int.ofNat_le
def abQ:=@Int.zero_mul
def abV:=@Nat.pow_zero
def ab4:=@Mul64.maskN
def ab5:=@Nat.mul_add
def ab7:=@Prod.mk.inj.{0,0}
abbrev FF:=Nat->Nat->Int
variable {w W:World} {n m j:Nat} {b:List (List Int)} {c:List Int} {e:TypeId} {f:Option Addr} {g:Value} {h:Nat->Nat->Value} {l:List Value} {o:Nat->Nat} {x:Int} {p:Nat->Value} {q:Addr}
variable {r:FF}
def Ext (w b:World):Prop:=Below w.heap.size w b
theorem Ext.refl (w:World):Ext w w:=Below.refl _ _
theorem Ext.trans {a:World} (h:Ext a w) (k:Ext w W):Ext a W:=Below.trans h (Below.mono k h.size)
theorem Ext.drew {a:World} (h:Ext a w):Ext a w.drew:=Below.drew h
theorem Ext.drewN {a:World} (h:Ext a w) (n:Nat):Ext a (w.drewN n):=⟨h.os,h.tape,h.output,h.size,h.block⟩
theorem Ext.alloc {a:World} (h:Ext a w) (o:Obj):Ext a (w.alloc o):=Below.alloc h h.size o
theorem Ext.setCell {a:World} (h:Ext a w) (c:a.heap.size<=q.block) (u:Value):Ext a (w.setCell q u):=Below.setCell h c u
theorem Ext.grown {a:World} {e:Option Nat} (h:Ext a w) (f:w.grownBy W e) (g: ∀k,e=some k->a.heap.size<=k):Ext a W:=
 Below.grown h f h.size g
theorem Ext.cell {a:World} (h:Ext a w) (e:a.cell? q=some g):w.cell? q=some g:=by
 have c:q.block<a.heap.size:=by
  grind [World.cell?]
 rw[Below.cell h c];exact e
theorem Ext.size {a:World} (h:Ext a w):a.heap.size<=w.heap.size:=Below.size h
theorem tu {p:Addr} (b:w.cell? p=some g):p.block<w.heap.size:=by
 grind [World.cell?]
def Rd (w:World) (A:Option Addr) (e:List Value):Prop:=
 e≠[]-> ∃b c,A=some ⟨b,c,none⟩/\ ∀i x,e[i]?=some x->w.cell? ⟨b,c+i,none⟩=some x
theorem Rd.nil (w:World) (A:Option Addr):Rd w A []:=fun h=>absurd rfl h
theorem Rd.ext (h:Rd w f l) (k:Ext w W):Rd W f l:=fun c=>by
 obtain⟨b,e,rfl,g⟩:=h c;exact⟨b,e,rfl,fun i x j=>k.cell (g i x j)⟩
theorem Rd.at_ (h:Rd w f l) {k:Nat} (j:l[k]?=some g):
  ∃b c,f=some ⟨b,c,none⟩/\w.cell? ⟨b,c+k,none⟩=some g:=by
 obtain⟨b,c,rfl,e⟩:=h (by grind);grind
def RdI (k:IntKind) (w:World) (A:Option Addr) (b:List Int):Prop:=Rd w A (b.map (Value.int k))
theorem RdI.nil (k:IntKind) (w:World) (A:Option Addr):RdI k w A []:=Rd.nil w A
theorem RdI.ext {k:IntKind} (h:RdI k w f c) (e:Ext w W):RdI k W f c:=Rd.ext h e
theorem RdI.at_ {k:IntKind} (h:RdI k w f c) {i:Nat} (g:c[i]?=some x):
  ∃b e,f=some ⟨b,e,none⟩/\w.cell? ⟨b,e+i,none⟩=some (.int k x):=Rd.at_ h (by simp[g])
def Vs (k:IntKind) (w:World) (v:Value) (b:List Int):Prop:=
 ∃B c,v= .slice B b.length c/\b.length<=c/\b.length<=9223372036854775807/\RdI k w B b
theorem Vs.ext {k:IntKind} (h:Vs k w g c) (e:Ext w W):Vs k W g c:=by
 obtain⟨B,b,f,j,l,m⟩:=h;exact⟨B,b,f,j,l,m.ext e⟩
def qR (k:IntKind) (w:World) (A:Option Addr) (c:List (List Int)):Prop:=
 c≠[]-> ∃b e,A=some ⟨b,e,none⟩/\ ∀i r,c[i]?=some r-> ∃v,w.cell? ⟨b,e+i,none⟩=some v/\Vs k w v r
theorem qR.nil (k:IntKind) (w:World) (A:Option Addr):qR k w A []:=fun h=>absurd rfl h
theorem qR.ext {k:IntKind} (h:qR k w f b) (e:Ext w W):qR k W f b:=fun g=>by
 obtain⟨c,j,rfl,n⟩:=h g;exact⟨c,j,rfl,fun i r o=>by obtain⟨v,l,m⟩:=n i r o;exact⟨v,e.cell l,m.ext e⟩⟩
theorem qR.at_ {k:IntKind} (h:qR k w f b) {i:Nat} (m:b[i]?=some c):
  ∃e j B g,f=some ⟨e,j,none⟩/\w.cell? ⟨e,j+i,none⟩=some (.slice B c.length g)/\c.length<=g/\c.length<=9223372036854775807/\RdI k w B c:=by
 obtain⟨e,j,rfl,l⟩:=h (by grind);obtain⟨v,n,B,g,rfl,o,p,q⟩:=l i c m;grind
theorem getElem?_of_lt {b:Type} {l:List b} {k:Nat} (h:k<l.length): ∃x,l[k]?=some x:=⟨l[k],X0 h⟩
theorem fX {k:IntKind} {a:Int} (h:a=x):Ending.returned (.int k a)= .returned (.int k x):=by rw[h]
theorem gY {a b:Bool} (h:a=b):Ending.returned (.bool a)= .returned (.bool b):=by rw[h]
section
open Go.ChangeShapes Go.WideShapes Go.ChangeAt Go.RowKit
theorem Tryz.ownKnob_:ownKnob prog.godebug=none:=by kernel_rfl
theorem Tryz.laidOut_:laidOutB prog=true:=by kernel_rfl
theorem M3 {H:Type} {enc:TypeId×Value->H} {P:Program} {base:Nat} {held:Bool} {f:TypeId} {k:IntKind} {a:Option Addr} {len cap:Nat} {d:DataW H} {p:List MemPlace} (F:P.underlying e=some (.slice f)) (z:P.underlying f=some (.int k)) (v:P.cellsOf f=1) (h:DataW.Trod enc P w base (fun _=>true) held e (.slice a len cap) d p):
  ∃o:List Int,len=o.length/\len<=cap/\cap<=maxLen/\RdI k w a o/\(∀n∈o,(Lit.int k n).wf=true)/\((d= .nil/\len=0)\/ ∃j,d= .slice (lits k o) j/\j.length=cap-len):=by
 obtain⟨u,A⟩:=h;rcases open_ints F z v A with⟨g,s⟩|⟨x,l,c,o,g,_,B,C,G,s,m,r⟩
 ·simp[Value.cells]at g;obtain⟨rfl,rfl,rfl⟩:=g;exact⟨[],rfl,XY _,Yt _,RdI.nil _ _ _,by simp,.inl ⟨(ab7 s).1,rfl⟩⟩
 simp[Value.cells]at g;obtain⟨rfl,rfl,rfl⟩:=g;simp at G;refine⟨o.take len,by simp;omega,B,C,fun E=>?_,fun n D=>r n (YT D),.inr ⟨_,(ab7 s).1,by grind [lits]⟩⟩;have q:0<o.length:=by
  grind
 obtain⟨b,I,rfl,y⟩:=ints_at m q;grind
theorem OK (h:(Lit.int .i8 x).wf=true): -128<=x/\x<=127:=by
 grind [Lit.wf,IntKind.min,IntKind.max,IntKind.signed,IntKind.bits]
theorem wW (h:(Lit.int .u8 x).wf=true):0<=x/\x<=255:=by
 simp_all[Go.bounds_u8]
end
theorem cn (h:w.rowIs n e m p) (c:Ext w W):W.rowIs n e m p:=h.of_block (c.block n h.lt)
theorem nk (h:w.rowIs n e m p) (k:Nat):(w.drewN k).rowIs n e m p:=h
theorem RdI.of_row {k:IntKind} (h:w.rowIs n e m p) (q:c.length<=m) (l: ∀i z,c[i]?=some z->p i= .int k z):
  RdI k w (some ⟨n,0,none⟩) c:=fun _=>⟨n,0,rfl,fun i x g=>by
 rw[XK]at g;cases j:c[i]? with
 |none=>grind
 |some z=>
  rw[j]at g;have o:i<c.length:=by
   grind
  rw[Yw,h.cell (by omega),l i z j];grind⟩
structure RV (w wr:World) (tr te:TypeId) (n m r:Nat) (g:Nat->Nat) (Z:Nat->Nat->Value):Prop where
 ext:Ext w wr
 top:wr.rowIs w.heap.size tr n (fun j=>if j<r then .slice (some ⟨g j,0,none⟩) m m else .slice none 0 0)
 gt: ∀j,j<r->w.heap.size<g j
 done: ∀j,j<r->wr.rowIs (g j) te m (Z j)
structure O6 (w wi:World) (tr te:TypeId) (n m r c:Nat) (g:Nat->Nat) (Z:Nat->Nat->Value) (z:Value):Prop where
 ext:Ext w wi
 top:wi.rowIs w.heap.size tr n (fun j=>if j<r+1 then .slice (some ⟨g j,0,none⟩) m m else .slice none 0 0)
 gt: ∀j,j<r+1->w.heap.size<g j
 ne: ∀j,j<r->g j≠g r
 done: ∀j,j<r->wi.rowIs (g j) te m (Z j)
 cur:wi.rowIs (g r) te m (fun i=>if i<c then Z r i else z)
theorem Ji (w:World) (tr c:TypeId) (n m:Nat) (g:Nat->Nat) (Z:Nat->Nat->Value):RV w (w.alloc (.cells (madeCells #[.slice none 0 0] n) tr)) tr c n m 0 g Z:=
 ⟨(Ext.refl _).alloc _,(aaH w _ n tr).congr (fun j _=>by simp),fun j b=>absurd b (Nat.not_lt_zero _),fun j b=>absurd b (Nat.not_lt_zero _)⟩
theorem RV.lt {tr:TypeId} (b:RV w W tr e n m j o h):w.heap.size<W.heap.size:=b.top.lt
theorem Jh {tr:TypeId} (z:Value) (c:RV w W tr e n m j o h):
  O6 w ((W.alloc (.cells (madeCells #[z] m) e)).setCell ⟨w.heap.size,j,none⟩ (.slice (some ⟨W.heap.size,0,none⟩) m m)) tr e n m j 0 (fun f=>if f=j then W.heap.size else o f) h z:=by
 have t:=c.lt;have p:=aaH W z m e;refine⟨(c.ext.alloc _).setCell (XY _) _,((c.top.alloc _).set j _).congr (fun f _=>?_),fun f l=>?_,fun f l=>?_,fun f l=>?_,?_⟩
 ·grind
 ·show w.heap.size<if f=j then _ else _
  by_cases b:f=j
  ·grind
  rw[if_neg b];exact c.gt f (by omega)
 ·have q:(if f=j then W.heap.size else o f)=o f:=if_neg (by omega);have s:(if j=j then W.heap.size else o j)=W.heap.size:=if_pos rfl;show(if f=j then W.heap.size else o f)≠(if j=j then W.heap.size else o j);rw[q,s];have:=(c.done f l).lt;omega
 ·have q:(if f=j then W.heap.size else o f)=o f:=if_neg (by omega);show World.rowIs _ (if f=j then W.heap.size else o f) _ _ _;rw[q];exact((c.done f l).alloc _).setOther (by have:=c.gt f l;grind) _
 show World.rowIs _ (if j=j then W.heap.size else o j) _ _ _;rw[if_pos rfl];exact(p.setOther (by grind) _).congr (fun i _=>by simp)
theorem MN {tr:TypeId} {c:Nat} {v:Value} (b:O6 w W tr e n m j c o h g) (p:v=h j c):
  O6 w (W.setCell ⟨o j,c,none⟩ v) tr e n m j (c+1) o h g:=by
 subst p;have q:=b.gt j (by omega);refine⟨b.ext.setCell (by grind) _,b.top.setOther (by grind) _,b.gt,b.ne,fun f l=>(b.done f l).setOther (b.ne f l) _,(b.cur.set c _).congr (fun i _=>?_)⟩;grind
theorem O6.drew {tr:TypeId} {c:Nat} (b:O6 w W tr e n m j c o h g):O6 w W.drew tr e n m j c o h g:=
 ⟨b.ext.drew,b.top.drew,b.gt,b.ne,fun f l=>(b.done f l).drew,b.cur.drew⟩
theorem MM {tr:TypeId} {c:Nat} (f:O6 w W tr e n m j c o h g) (p:m<=c):RV w W tr e n m (j+1) o h:=
 ⟨f.ext,f.top,f.gt,fun l s=>by
  by_cases b:l=j
  ·subst b;exact f.cur.congr (fun i q=>by grind)
  exact f.done l (by omega)⟩
def l6 (n m:Nat) (Z:FF):List (List Int):=(List.range n).map fun i=>(List.range m).map fun j=>Z i j
theorem oq (n m:Nat) (Z:FF):(l6 n m Z).length=n:=by simp[l6]
theorem Jd {i:Nat} (h:(l6 n m r)[i]?=some c):i<n/\c=(List.range m).map fun j=>r i j:=by
 grind [l6]
theorem EF {i:Nat} (b:i<n) (c:j<m):((l6 n m r).getD i []).getD j 0=r i j:=by
 grind [l6]
theorem RV.rd {tr:TypeId} {k:IntKind} (h:RV w W tr e n m j o (fun i b=> .int k (r i b))) (t:n<=j) (s:m<=9223372036854775807):
  qR k W (some ⟨w.heap.size,0,none⟩) (l6 n m r):=fun _=>by
 refine⟨w.heap.size,0,rfl,fun i q f=>?_⟩;obtain⟨l,rfl⟩:=Jd f;have c:((List.range m).map fun b=>r i b).length=m:=by simp
 refine⟨.slice (some ⟨o i,0,none⟩) m m,?_,some ⟨o i,0,none⟩,m,by rw[c],by omega,by omega,fun _=>⟨o i,0,rfl,fun b x u=>?_⟩⟩
 ·have:=h.top.cell l;grind
 have p:b<m:=by
  grind
 rw[Yw,(h.done i (by omega)).cell p];grind
section
section
variable {P:Program} (w:World)
theorem ws (b:Nat) (t m e:TypeId) (i:TypeInfo) (size:Nat) (l:P.underlying t=some (.slice e)) (j:P.info? e=some i)
  (v:Value) (n:Nat) (o:List Value) (f:w.ownsRow b e size v n o) (c:Nat):(Builtin.append_ #[t,t] m #[v,.slice none 0 c]).run P w= .ok v w:=by
 rcases f.2 with⟨rfl,rfl⟩|⟨g,cap,cur,rfl,_,_,h,_⟩
 ·simp[Builtin.append_,run_underlying l,sizeOf,typeInfo,j,Builtin.lenOf,Builtin.firstCells]
 simp[Builtin.append_,run_underlying l,sizeOf,typeInfo,j,Builtin.lenOf,Builtin.firstCells,h,storeCells]
theorem kE (g:Nat) (t H e:TypeId) (z:Value) (size bytes:Nat) (L:P.underlying t=some (.slice e)) (p:(P.info? e).map (fun i=>(i.zero,i.size,i.bytes))=some (some z,size,bytes))
  (B:z.cells.size=size) (q:0<size)
  (v:Value) (n:Nat) (E:List Value) (o:w.ownsRow g e size v n E)
  (A:Option Addr) (m c:Nat) (f:List Value) (V:Rd w A f) (T:f.length=m*size) (O: ∀u∈f,u.oneCell'=true)
  (s:n+m<=maxLen) (h:(n+m)*bytes<=140737488355328) (l:g<=w.heap.size):
  ∃r D,(Builtin.append_ #[t,t] H #[v,.slice A m c]).run P w= .ok r D/\D.ownsRow g e size r (n+m) (E++f)/\w.grownBy D v.ownBlock/\(r.ownBlock=v.ownBlock\/r.ownBlock=some w.heap.size):=by
 obtain⟨i,J,C⟩:=XI.1 p;simp only[Prod.mk.injEq]at C;obtain⟨M,K,I⟩:=C;by_cases x:f=[]
 ·subst x;have U:m=0:=by
   rcases Nat.eq_zero_or_pos m with F|F
   ·exact F
   have:=aa6 F q;grind
  subst U;rcases A with _|N
  ·grind [ws,World.grownBy.refl]
  obtain⟨r,D,y,Q,R,_,S⟩:=run_append_own_at (P:=P) w g t H e i z size bytes L J M K I B q v n E o N 0 c [] (by simp) (by simp) (by simp) s h l;grind
 obtain⟨b,G,rfl,W⟩:=V x;obtain⟨r,D,y,Q,R,_,S⟩:=run_append_own_at (P:=P) w g t H e i z size bytes L J M K I B q v n E o ⟨b,G,none⟩ m c f T (fun j u X=>by
  grind [Addr.add]) O s h l
 grind
theorem iA {B:Array Oper} {j:List Oper} {o:Oper} {a:Act} {Q:Exit->Act->World->Prop} (E:o.guard=none) (s x:Operand) (t:TypeId)
  (R:o.op= .call {callee:= .builtin .append,args:= #[s,x],argTypes:= #[t,t]})
  (f:Nat) (e:TypeId) (z:Value) (size bytes:Nat) (U:P.underlying t=some (.slice e)) (p:(P.info? e).map (fun i=>(i.zero,i.size,i.bytes))=some (some z,size,bytes))
  (G:z.cells.size=size) (F:0<size)
  (v:Value) (n:Nat) (H:List Value) (T:a.eval s=v) (r:w.ownsRow f e size v n H)
  (A:Option Addr) (m c:Nat) (b:List Value) (V:a.eval x= .slice A m c) (S:Rd w A b) (O:b.length=m*size) (I: ∀u∈b,u.oneCell'=true)
  (D:n+m<=maxLen) (g:(n+m)*bytes<=140737488355328) (l:f<=w.heap.size)
  (h: ∀q C,C.ownsRow f e size q (n+m) (H++b)->w.grownBy C v.ownBlock->(q.ownBlock=v.ownBlock\/q.ownBlock=some w.heap.size)->wpList P B Q j (a.put o.dst q) C):wpList P B Q (o::j) a w:=by
 refine wpList_plain E fun K N=>?_
 obtain⟨q,C,y,J,L,M⟩:=kE (P:=P) w f t o.type e z size bytes U p G F v n H r A m c b S O I D g l;unfold Oper.wp execOp;simp only[R,resolve,invoke,builtin,XP,Yb,XM,Z7,X9,Yu,T,V,y];exact N _ _ (h q C J L M)
end
theorem p9 {k:IntKind}: ∀u∈c.map (Value.int k),u.oneCell'=true:=by
 intro u b;obtain⟨z,_,rfl⟩:=XR.1 b;rfl
theorem JB (h:w.ownsRow n e 1 g m l) (y:0<m):
  ∃b cap f,g= .slice (some ⟨b,0,none⟩) m cap/\m<=cap/\n<=b/\w.rowIs b e cap f/\ ∀i x,l[i]?=some x->f i=x:=by
 obtain⟨t,o⟩:=h;rcases o with⟨j,r⟩|⟨b,cap,cur,j,p,q,c,u,z,A⟩
 ·omega
 refine⟨b,cap,fun i=>cur[i]?.getD undef,j,c,p,⟨cur,q,by omega,fun i s=>?_⟩,fun i x B=>?_⟩
 ·grind
 grind
theorem CL {size:Nat} (h:w.ownsRow n e size g m l) (k:Ext w W):W.ownsRow n e size g m l:=by
 obtain⟨p,f⟩:=h;refine⟨p,?_⟩;rcases f with f|⟨b,cap,cur,q,j,o,r⟩
 ·grind
 refine .inr ⟨b,cap,cur,q,j,?_,r⟩;have c:b<w.heap.size:=by
  grind
 rw[k.block b c];exact o
theorem x7 {b:World} {size:Nat} (c:w.grownBy b g.ownBlock) (j:w.ownsRow n e size g m l) (h:Ext W w) (o:W.heap.size<=n):Ext W b:=
 h.grown c (fun k f=>by have:=(j.lt k f).1;omega)
theorem vT (h:w.ownsRow n e 2 g m l) (y:0<m):
  ∃b cap f,g= .slice (some ⟨b,0,none⟩) m cap/\m<=cap/\cap<=maxLen/\n<=b/\w.rowIs b e (cap*2) f/\ ∀i x,l[i]?=some x->f i=x:=by
 obtain⟨u,o⟩:=h;rcases o with⟨j,s⟩|⟨b,cap,cur,j,p,q,c,r,z,A⟩
 ·omega
 refine⟨b,cap,fun i=>cur[i]?.getD undef,j,c,r,p,⟨cur,q,by omega,fun i t=>?_⟩,fun i x B=>?_⟩
 ·grind
 grind
end
def f9 (r:Nat->Int):(List Nat->Int)->List Nat->Int
 |_,[]=>0
 |f,c::b=>r c*f b-f9 r (fun l=>f (c::l)) b
theorem GV (a b:Int) (r s:Nat->Int): ∀(e:List Nat) (f:List Nat->Int),f9 (fun c=>a*r c+b*s c) f e=a*f9 r f e+b*f9 s f e
 |[],f=>by simp[f9]
 |c::e,f=>by
  simp only[f9,GV a b r s e];grind
theorem zN (r:Nat->Int) (a b:Int): ∀(e:List Nat) (f g:List Nat->Int),f9 r (fun l=>a*f l+b*g l) e=a*f9 r f e+b*f9 r g e
 |[],f,g=>by simp[f9]
 |c::e,f,g=>by
  simp only[f9,zN r a b e];grind
theorem Cq (r:Nat->Int): ∀(b:List Nat),f9 r (fun _=>0) b=0
 |[]=>rfl
 |c::b=>by simp[f9,Cq r b]
theorem vt (r s:Nat->Int): ∀(b:List Nat) (f:List Nat->Int),f9 r (f9 s f) b= - f9 s (f9 r f) b
 |[],f=>by simp[f9]
 |c::b,f=>by
  have e:(fun l=>f9 s f (c::l))=fun l=>s c*f l+(-1)*f9 s (fun m=>f (c::m)) l:=by grind [f9]
  have g:(fun l=>f9 r f (c::l))=fun l=>r c*f l+(-1)*f9 r (fun m=>f (c::m)) l:=by grind [f9]
  have h:=vt r s b (fun m=>f (c::m));rw[f9,f9,e,g,zN,zN];omega
theorem TY (r:Nat->Int) (b:List Nat) (f:List Nat->Int):f9 r (f9 r f) b=0:=by
 grind [vt]
theorem tD {r:Nat->Int}: ∀(b:List Nat) (f:List Nat->Int),(∀c∈b,r c=0)->f9 r f b=0
 |[],_,_=>rfl
 |c::b,f,h=>by
  rw[f9,tD b _ (fun c e=>h c (YR _ e)),h c YV];simp
def om (R:FF):Nat->List Nat->Int
 |0=>fun _=>1
 |k+1=>f9 (R k) (om R k)
def BS:Nat->List Nat
 |0=>[]
 |k+1=>k::BS k
theorem rq {k:Nat} (h:n∈BS k):n<k:=by
 induction k with
 |zero=>simp[BS]at h
 |succ k b=>
  rcases Yo.1 h with rfl|h
  ·omega
  grind
def bk (R:FF) (k i j:Nat):Int:=f9 (R i) (om R k) (j::BS k)
def dk (R:FF) (k:Nat):Int:=om R k (BS k)
theorem co (R:FF):dk R 0=1:=rfl
theorem b7 (R:FF) (k:Nat):dk R (k+1)=bk R k k k:=rfl
theorem cK (R:FF) (i j:Nat):bk R 0 i j=R i j:=by simp[bk,f9,om,BS]
theorem Hd (R:FF) {k:Nat} (h:n<k) (b:List Nat):f9 (R n) (om R k) b=0:=by
 induction k generalizing b with
 |zero=>omega
 |succ k c=>
  by_cases e:n=k
  ·subst e;exact TY _ _ _
  rw[om,vt,show f9 (R n) (om R k)=fun _=>0 from funext (c (by omega)),Cq];rfl
theorem lO (R:FF) {k:Nat} (h:n<k) (j:Nat):bk R k n j=0:=Hd R h _
theorem elim (R:FF): ∀k,(∀t,t<k->dk R (t+1)≠0)-> ∃N:Int,N≠0/\ ∀v:Nat->Int,∃b:Nat->Int,(∀c,c<k->b c=0)/\
  ∀m,k<=m-> ∀e,f9 b (om R m) e=N*f9 v (om R m) e
 |0,_=>⟨1,by omega,fun v=>⟨v,fun c h=>by omega,fun m _ e=>by omega⟩⟩
 |k+1,n=>by
  obtain⟨N,l,j⟩:=elim R k (fun t x=>n t (by omega));obtain⟨r,p,o⟩:=j (R k);have q:r k*dk R k=N*dk R (k+1):=by
   grind [f9,tD,rq,b7,bk,dk]
  have f:r k≠0:=by
   grind [Int.mul_eq_zero]
  refine⟨r k*N,abk f l,fun v=>?_⟩;obtain⟨b,s,g⟩:=j v;refine⟨fun c=>r k*b c+(- b k)*r c,fun c u=>?_,fun m w e=>?_⟩
  ·grind
  rw[GV,g m (by omega),o m (by omega),Hd R (show k<m by omega)];grind
theorem sylv (R:FF) (k:Nat) (z: ∀t,t<k->dk R (t+1)≠0) (i j:Nat):
  dk R k*bk R (k+1) i j=dk R (k+1)*bk R k i j-bk R k i k*bk R k k j:=by
 obtain⟨N,p,q⟩:=elim R k z;obtain⟨v,e,hv1⟩:=q (R i);obtain⟨u,hu0,hu1⟩:=q (R k);have b: ∀{x:Nat->Int} {t:Nat},(∀c,c<k->x c=0)->(∀m,k<=m-> ∀o,f9 x (om R m) o=N*f9 (R t) (om R m) o)-> ∀j,N*bk R k t j=x j*dk R k:=by
  grind [bk,f9,tD,rq,dk]
 have C:=b e hv1;have D:=b hu0 hu1;have s:f9 v (f9 u (om R k)) (j::k::BS k)=N*N*bk R (k+1) i j:=by
  have r:f9 u (om R k)=fun l=>N*f9 (R k) (om R k) l+0*0:=by grind
  have A:f9 v (f9 u (om R k)) (j::k::BS k)=N*f9 v (om R (k+1)) (j::k::BS k):=by
   rw[r];have:=zN v N 0 (j::k::BS k) (f9 (R k) (om R k)) (fun _=>0);grind [om]
  grind [bk,BS]
 have w:f9 v (f9 u (om R k)) (j::k::BS k)=(v j*u k-v k*u j)*dk R k:=by
  have g: ∀{x:Nat->Int} (f:List Nat->Int),(∀c,c<k->x c=0)->f9 x f (BS k)=0:=fun f h=>tD (BS k) f (fun c y=>h c (rq y))
  simp only[f9,g _ e,g _ hu0,dk];grind
 have B:=s.symm.trans w;have n:N*N≠0:=abk p p;apply Zx n;grind [b7]
def DD (x:List Int):Bool:=x.all fun c=>decide (-1099511627776<=c)&&decide (c<=1099511627776)
theorem xu {k:Nat} (h:c[k]?=some x) (b:x< -1099511627776\/1099511627776<x):DD c=false:=by
 unfold DD;rw[List.all_eq_false];exact⟨x,XH h,by simp;omega⟩
theorem KH {k:Nat} (g:c.length<=k) (h: ∀j b,j<k->c[j]?=some b-> -1099511627776<=b/\b<=1099511627776):DD c=true:=by
 unfold DD;rw[XO];intro b e;obtain⟨j,f,rfl⟩:=YZ e;have:=h j _ (by omega) (X0 f);simp;omega
theorem yZ {f:Type} {x:List f} {k:Nat} {P:f->Prop} {c:f} (h: ∀j c,j<k->x[j]?=some c->P c) (l:x[k]?=some c) (g:P c): ∀j c,j<k+1->x[j]?=some c->P c:=by
 intro j d m b;by_cases e:j=k
 ·subst e;rw[l]at b;cases b;exact g
 exact h j d (by omega) b
theorem kf (A:Option Addr) (c:Nat) (x:List Int) (w:World) (hx:RdI .i64 w A x) (lx:x.length<=9223372036854775807):
  Calls prog 163 #[.slice A x.length c] w fun e w'=>e= .returned (.bool (DD x))/\w=w':=by
 have HX:=XL hx;clear hx
 go_enter func163,ntmps163
 go_wp2_with fail
 go_loop [7,4] (fun i _=> ∃k:Nat,k<=x.length/\i= .int .i64 k/\Hid (∀j c,j<k->x[j]?=some c-> -1099511627776<=c/\c<=1099511627776)) (fun i _=>x.length-(intOf i).toNat)
 case atStart=>grind [Lib.hid]
 case round=>
  obtain⟨k,hk,rfl,HR⟩:=hrel;by_cases hlt:k<x.length
  ·obtain⟨a,ha⟩:=getElem?_of_lt hlt;obtain⟨b,off,rfl,hc⟩:=HX.out.at_ ha;have HA:=XL ha;clear ha;by_cases h1:a< -1099511627776
   ·go_wp2_with fail
    go_ret
    exact⟨gY (xu HA.out (.inl h1)).symm,rfl⟩
   by_cases h2:1099511627776<a
   ·go_wp2_with fail
    go_ret
    exact⟨gY (xu HA.out (.inr h2)).symm,rfl⟩
   go_wp2_with fail
   go_round
   case rel=>exact⟨k+1,by omega,by go_num,XL (yZ (P:=fun c=> -1099511627776<=c/\c<=1099511627776) HR.out HA.out (by omega))⟩
   grind [intOf]
  go_wp2_with fail
  go_ret
  exact⟨gY (KH (by omega) HR.out).symm,rfl⟩
def wY (n:Int) (x:List Int):Bool:=decide ((x.length:Int)=n)&&DD x
theorem Cf (n:Int) (A:Option Addr) (c:Nat) (x:List Int) (w:World) (hx:RdI .i64 w A x) (lx:x.length<=9223372036854775807):
  Calls prog 116 #[.int .i64 n,.slice A x.length c] w fun e w'=>e= .returned (.bool (wY n x))/\w=w':=by
 by_cases h:(x.length:Int)=n
 ·have hB:((x.length:Int)==n)=true:=by simp[h]
  go_enter func116,ntmps116
  have HH:=XL h;clear h
  go_wp2_with (go_at_call 163;refine(kf A c x _ hx lx).mono ?_;rintro e w' ⟨rfl,rfl⟩)
  go_ret
  exact⟨gY (by grind [wY]),rfl⟩
 have hB:((x.length:Int)==n)=false:=by simp[h]
 go_enter func116,ntmps116
 go_wp2_with fail
 go_ret
 exact⟨gY (by simp[wY,h]),rfl⟩
def ent (b:List (List Int)) (i j:Nat):Int:=(b.getD i []).getD j 0
theorem oM {i:Nat} {a:Int} (h:b[i]?=some c) (e:c[n]?=some a):ent b i n=a:=by
 grind [ent]
def ky (b:List (List Int)) (i j:Nat):Prop:=ent b i j=ent b j i/\ -262144<ent b i j/\ent b i j<262144
def i6 (b:List (List Int)):Prop:=
 1<=b.length/\b.length<=8/\(∀i,i<b.length->(b.getD i []).length=b.length)/\ ∀i,i<b.length-> ∀j,j<b.length->ky b i j
instance (rows:List (List Int)) (i j:Nat):Decidable (ky rows i j):=inferInstanceAs (Decidable (_/\_))
instance (rows:List (List Int)):Decidable (i6 rows):=inferInstanceAs (Decidable (_/\_/\_/\_))
theorem Ar {p:Prop} [Decidable p] (h:p):Ending.returned (.bool true)= .returned (.bool (decide p)):=by simp[h]
theorem dI {p:Prop} [Decidable p] (h: ¬p):Ending.returned (.bool false)= .returned (.bool (decide p)):=by simp[h]
theorem sC (A:Option Addr) (c:Nat) (rows:List (List Int)) (w:World) (hx:qR .i64 w A rows) (lx:rows.length<=9223372036854775807):
  Calls prog 85 #[.slice A rows.length c] w fun e w'=>e= .returned (.bool (decide (i6 rows)))/\w=w':=by
 have HX:=XL hx;clear hx
 go_enter func85,ntmps85
 by_cases hn1:rows.length<1
 ·go_wp2_with fail
  go_ret
  exact⟨dI (fun h=>by have:=h.1;omega),rfl⟩
 by_cases hn8:8<rows.length
 ·go_wp2_with fail
  go_ret
  exact⟨dI (fun h=>by have:=h.2.1;omega),rfl⟩
 go_wp2_with fail
 go_loop [20,5] (fun i _=> ∃k:Nat,k<=rows.length/\i= .int .i64 k/\Hid (∀i,i<k->(rows.getD i []).length=rows.length)) (fun i _=>rows.length-(intOf i).toNat)
 case atStart=>grind [Lib.hid]
 case round=>
  obtain⟨k,hk,rfl,HR⟩:=hrel;by_cases hlt:k<rows.length
  ·obtain⟨r,ha⟩:=getElem?_of_lt hlt;obtain⟨b,off,B,cr,rfl,hc,hcr,hlr,hr⟩:=HX.out.at_ ha;have HA:=XL ha;clear ha hr;by_cases h1:r.length=rows.length
   ·have h1':((r.length:Int) !=(rows.length:Int))=false:=by simp[h1]
    have H1:=XL h1;clear h1
    go_wp2_with fail
    go_round
    case rel=>
     exact⟨k+1,by omega,by go_num,XL (fun i hi=>by
      by_cases e:i=k
      ·subst e;rw[Yf,HA.out];exact H1.out
      exact HR.out i (by omega))⟩
    grind [intOf]
   have h1':((r.length:Int) !=(rows.length:Int))=true:=by simp;omega
   go_wp2_with fail
   go_ret
   exact⟨dI (fun h=>by have:=h.2.2.1 k hlt;rw[Yf,HA.out]at this;grind),rfl⟩
  have HL:Hid (∀i,i<rows.length->(rows.getD i []).length=rows.length):=XL (fun i hi=>HR.out i (by omega));clear HR
  go_wp2_with fail
  go_loop [31,6,7,8,9] (fun i _ _ _ _=> ∃k:Nat,k<=rows.length/\i= .int .i64 k/\Hid (∀i,i<k-> ∀j,j<rows.length->ky rows i j)) (fun i _ _ _ _=>rows.length-(intOf i).toNat)
  case atStart=>grind [Lib.hid]
  case round=>
   obtain⟨k,hk,rfl,HR⟩:=hrel;by_cases hlt:k<rows.length
   ·obtain⟨r,ha⟩:=getElem?_of_lt hlt;obtain⟨b,off,B,cr,rfl,hc,hcr,hlr,hr⟩:=HX.out.at_ ha;have hrl:r.length=rows.length:=by have:=HL.out k hlt;grind
    have HA:=XL ha;have HRR:=XL hr;have HRL:=XL hrl;clear ha hr hrl
    go_wp2_with fail
    go_loop [38,8,9] (fun i _ _=> ∃l:Nat,l<=rows.length/\i= .int .i64 l/\Hid (∀j,j<l->ky rows k j)) (fun i _ _=>rows.length-(intOf i).toNat)
    case atStart=>exact⟨0,Yt _,rfl,XL (fun j h=>by omega)⟩
    case round=>
     obtain⟨l,hl,rfl,HQ⟩:=hrel;by_cases hll:l<rows.length
     ·obtain⟨a,ha⟩:=getElem?_of_lt (l:=r) (k:=l) (by rw[HRL.out];exact hll);obtain⟨b2,off2,rfl,hc2⟩:=HRR.out.at_ ha;have HA2:=XL ha;clear ha;obtain⟨r3,ha3⟩:=getElem?_of_lt hll;obtain⟨b3,off3,B3,cr3,h33,hc3,hcr3,hlr3,hr3⟩:=HX.out.at_ ha3;cases h33;have hrl3:r3.length=rows.length:=by have:=HL.out l hll;simp_all
      obtain⟨a4,ha4⟩:=getElem?_of_lt (l:=r3) (k:=k) (by omega);obtain⟨b4,off4,rfl,hc4⟩:=hr3.at_ ha4;have hlr4:k<r3.length:=by omega
      have hlr5:l<r.length:=by rw[HRL.out];exact hll
      have HA3:=XL ha3;have HA4:=XL ha4;have E1:=XL (oM HA.out HA2.out);have E2:=XL (oM HA3.out HA4.out);clear ha3 hr3 hrl3 ha4;by_cases g1:a=a4
      ·have g1':(a !=a4)=false:=by simp[g1]
       have G1:=XL g1;clear g1;by_cases g2:a<= -262144
       ·go_wp2_with fail
        go_ret
        exact⟨dI (fun h=>by have:=h.2.2.2 k hlt l hll;unfold ky at this;rw[E1.out]at this;omega),rfl⟩
       by_cases g3:262144<=a
       ·go_wp2_with fail
        go_ret
        exact⟨dI (fun h=>by have:=h.2.2.2 k hlt l hll;unfold ky at this;rw[E1.out]at this;omega),rfl⟩
       go_wp2_with fail
       go_round
       case rel=>
        exact⟨l+1,by omega,by go_num,XL (fun j hj=>by
         by_cases e:j=l
         ·subst e;unfold ky;rw[E1.out,E2.out,<- G1.out];omega
         exact HQ.out j (by omega))⟩
       case measure=>simp[intOf];omega
      have g1':(a !=a4)=true:=by simp[g1]
      go_wp2_with fail
      go_ret
      exact⟨dI (fun h=>by have:=h.2.2.2 k hlt l hll;unfold ky at this;rw[E1.out,E2.out]at this;omega),rfl⟩
     have hd:((l:Int)<(r.length:Int))=False:=by rw[HRL.out];simp;omega
     have hle:r.length<=l:=by simp_all
     clear hd
     go_wp2_with fail
     go_round
     case rel=>
      exact⟨k+1,by omega,by go_num,XL (fun i hi j hj=>by
       by_cases e:i=k
       ·subst e;exact HQ.out j (by omega)
       exact HR.out i (by omega) j hj)⟩
     case measure=>simp[intOf];omega
   go_wp2_with fail
   go_ret
   exact⟨Ar ⟨by omega,by omega,HL.out,fun i hi j hj=>HR.out i (by omega) j hj⟩,rfl⟩
def ox (b:List (List Int)) (i:Nat):Prop:=wrap64 (2*ent b i 0)<=ent b 0 0/\wrap64 (-2*ent b i 0)<=ent b 0 0
def lD (b:List (List Int)):Prop:=
 0<ent b 0 0/\ent b 0 0<65536/\ ∀i,i<b.length->1<=i->ox b i
instance (rows:List (List Int)) (i:Nat):Decidable (ox rows i):=inferInstanceAs (Decidable (_/\_))
instance (rows:List (List Int)):Decidable (lD rows):=inferInstanceAs (Decidable (_/\_/\_))
theorem ms (A:Option Addr) (c:Nat) (rows:List (List Int)) (w:World) (hx:qR .i64 w A rows) (lx:rows.length<=9223372036854775807) (hcap:rows.length<=c)
  (hn:2<=rows.length) (hne: ∀i,i<rows.length->1<=(rows.getD i []).length):
  Calls prog 86 #[.slice A rows.length c] w fun e w'=>e= .returned (.bool (decide (lD rows)))/\w=w':=by
 have HX:=XL hx;have HNE:=XL hne;clear hx hne;obtain⟨r,ha⟩:=getElem?_of_lt (l:=rows) (k:=0) (by omega);obtain⟨b,off,B,cr,rfl,hc,hcr,hlr,hr⟩:=HX.out.at_ ha;have hrl:1<=r.length:=by have:=HNE.out 0 (by omega);grind
 obtain⟨d,hd⟩:=getElem?_of_lt (l:=r) (k:=0) hrl;obtain⟨b2,off2,rfl,hc2⟩:=hr.at_ hd;have E0:=XL (oM ha hd);clear ha hd hr;rw[YA]at hc hc2
 go_enter func86,ntmps86
 by_cases g1:d<=0
 ·go_wp2_with fail
  go_ret
  exact⟨dI (fun h=>by have:=h.1;rw[E0.out]at this;omega),rfl⟩
 by_cases g2:65536<=d
 ·go_wp2_with fail
  go_ret
  exact⟨dI (fun h=>by have:=h.2.1;rw[E0.out]at this;omega),rfl⟩
 go_wp2_with fail
 go_loop [20,5] (fun i _=> ∃k:Nat,k<=rows.length-1/\i= .int .i64 k/\Hid (∀i,i<k+1->1<=i->ox rows i)) (fun i _=>rows.length-(intOf i).toNat)
 case atStart=>grind [Lib.hid]
 case round=>
  obtain⟨k,hk,rfl,HR⟩:=hrel;by_cases hlt:k<rows.length-1
  ·obtain⟨r3,ha3⟩:=getElem?_of_lt (l:=rows) (k:=k+1) (by omega);obtain⟨b3,off3,B3,cr3,h33,hc3,hcr3,hlr3,hr3⟩:=HX.out.at_ ha3;cases h33;rw[show off+(k+1)=off+1+k from by omega]at hc3;have hrl3:1<=r3.length:=by have:=HNE.out (k+1) (by omega);grind
   obtain⟨a,ha⟩:=getElem?_of_lt (l:=r3) (k:=0) hrl3;obtain⟨b4,off4,rfl,hc4⟩:=hr3.at_ ha;rw[YA]at hc4;have E1:=XL (oM ha3 ha);clear ha3 hr3 ha;by_cases g3:d<wrap64 (2*a)
   ·go_wp2_with fail
    go_ret
    exact⟨dI (fun h=>by have:=h.2.2 (k+1) (by omega) (by omega);unfold ox at this;rw[E0.out,E1.out]at this;omega),rfl⟩
   by_cases g4:d<wrap64 (-2*a)
   ·go_wp2_with fail
    go_ret
    exact⟨dI (fun h=>by have:=h.2.2 (k+1) (by omega) (by omega);unfold ox at this;rw[E0.out,E1.out]at this;omega),rfl⟩
   go_wp2_with fail
   go_round
   case rel=>
    exact⟨k+1,by omega,by go_num,XL (fun i hi hi'=>by
     by_cases e:i=k+1
     ·subst e;unfold ox;rw[E0.out,E1.out];omega
     exact HR.out i (by omega) hi')⟩
   grind [intOf]
  go_wp2_with fail
  go_ret
  exact⟨Ar ⟨by rw[E0.out];omega,by rw[E0.out];omega,fun i hi hi'=>HR.out i (by omega) hi'⟩,rfl⟩
theorem Tryz.infoI64:(prog.info? 2).map (fun i=>(i.zero,i.size,i.bytes))=some (some (.int .i64 0),1,8):=by kernel_rfl
theorem Tryz.infoSlI64:(prog.info? 35).map (fun i=>(i.zero,i.size,i.bytes))=some (some (.slice none 0 0),1,24):=by kernel_rfl
def Qp (b:List (List Int)) (last:Int) (i j:Nat):Int:=
 wrap64 (Int.tdiv (wrap64 (wrap64 (ent b 0 0*ent b (i+1) (j+1))-wrap64 (ent b (i+1) 0*ent b 0 (j+1)))) last)
def Qq (b:List (List Int)) (last:Int):List (List Int):=l6 (b.length-1) (b.length-1) (Qp b last)
def DM (b:List (List Int)) (last:Int):Prop:=
 wrap64 (4*wrap64 (wrap64 (last*Qp b last 0 0)+wrap64 (ent b 1 0*ent b 1 0)))<wrap64 (3*ent b 0 0*ent b 0 0)
instance (stg:List (List Int)) (last:Int):Decidable (DM stg last):=inferInstanceAs (Decidable (_<_))
def qi:Nat->List (List Int)->Int->Bool
 |0,_,_=>false
 |f+1,b,last=>
  if b.length<=1 then decide (0<ent b 0 0)&&decide (ent b 0 0<=10000)
  else if lD b then(if DM b last then false else qi f (Qq b last) (ent b 0 0))else false
def isReducedM (b:List (List Int)):Bool:=decide (i6 b)&&qi b.length b 1
def SA:Value->Nat| .slice _ n _=>n|_=>0
def Sq (b:List (List Int)):Prop:= ∀i,i<b.length->(b.getD i []).length=b.length
theorem Sq.at_ (h:Sq b) {i:Nat} (f:b[i]?=some c):c.length=b.length:=by
 have e:i<b.length:=by
  grind
 have:=h i e;grind
theorem Sq.nx (b:List (List Int)) (last:Int):Sq (Qq b last):=by
 intro i c;grind [Qq,l6]
theorem qR.ent_ (h:qR .i64 w f b) (x:Sq b) {i j:Nat} (t:i<b.length) (C:j<b.length):
  ∃e m n g c,f=some ⟨e,m,none⟩/\w.cell? ⟨e,m+i,none⟩=some (.slice (some ⟨n,g,none⟩) b.length c)/\b.length<=c/\w.cell? ⟨n,g+j,none⟩=some (.int .i64 (ent b i j)):=by
 obtain⟨r,p⟩:=getElem?_of_lt t;obtain⟨e,m,B,y,rfl,z,s,u,v⟩:=h.at_ p;have D:=x.at_ p;obtain⟨a,o⟩:=getElem?_of_lt (l:=r) (k:=j) (by omega);obtain⟨n,g,rfl,q⟩:=v.at_ o;grind [oM]
theorem qR.row_ (h:qR .i64 w f b) (x:Sq b) {i:Nat} (t:i<b.length):
  ∃g m n l c,f=some ⟨g,m,none⟩/\w.cell? ⟨g,m+i,none⟩=some (.slice (some ⟨n,l,none⟩) b.length c)/\b.length<=c/\ ∀j,j<b.length->w.cell? ⟨n,l+j,none⟩=some (.int .i64 (ent b i j)):=by
 obtain⟨r,o⟩:=getElem?_of_lt t;obtain⟨g,m,B,p,rfl,y,s,u,v⟩:=h.at_ o;have C:=x.at_ o;obtain⟨n,l,rfl,q⟩:=v (by
  intro e;have:=congrArg List.length e;grind)
 refine⟨g,m,n,l,p,rfl,by grind,by omega,fun j z=>?_⟩;grind [oM]
theorem kC (A:Option Addr) (c:Nat) (rows:List (List Int)) (w:World) (hx:qR .i64 w A rows) (lx:rows.length<=9223372036854775807) (hcap:rows.length<=c):
  Calls prog 36 #[.slice A rows.length c] w fun e w'=>e= .returned (.bool (isReducedM rows))/\Ext w w':=by
 have HX:=XL hx;clear hx;by_cases hS:i6 rows
 ·have hSd:decide (i6 rows)=true:=by simp[hS]
  have HS:=XL hS;have hn1:1<=rows.length:=hS.1;have hn8:rows.length<=8:=hS.2.1;have HF:Hid (isReducedM rows=qi rows.length rows 1):=XL (by simp[isReducedM,hS]);clear hS
  go_enter func36,ntmps36
  go_wp2_with (go_at_call 85;refine(sC A c rows _ HX.out lx).mono ?_;rintro e w' ⟨rfl,rfl⟩)
  clear hSd
  go_loopw [3,4,5,6,7,8,9,10] (fun s l _ _ _ _ _ _ wr=> ∃(B:Option Addr) (cap:Nat) (stg:List (List Int)) (last:Int),s= .slice B stg.length cap/\l= .int .i64 last/\1<=stg.length/\stg.length<=8/\stg.length<=cap/\1<=last/\last<65536/\Hid (Sq stg)/\Hid (qR .i64 wr B stg)/\Hid (Ext w wr)/\Hid (qi stg.length stg last=qi rows.length rows 1))
   (fun s _ _ _ _ _ _ _ _=>SA s)
  case atStart=>exact⟨A,c,rows,1,rfl,rfl,hn1,hn8,hcap,by omega,by omega,XL HS.out.2.2.1,HX,XL (Ext.refl _),XL rfl⟩
  case round=>
   clear HX HS hn1 hn8 hcap;obtain⟨B,cap,stg,last,rfl,rfl,h1,h8,hcap,hl0,hl1,HSq,HR,HE,HQ⟩:=hrel;by_cases hlen:1<stg.length
   ·obtain⟨b,off,b2,off2,c2,rfl,hc1,hcap2,hc2⟩:=HR.out.ent_ HSq.out (i:=0) (j:=0) (by omega) (by omega);rw[YA]at hc1 hc2;by_cases hP:lD stg
    ·have hPd:decide (lD stg)=true:=by simp[hP]
     have hd0:0<ent stg 0 0:=hP.1;have hd1:ent stg 0 0<65536:=hP.2.1;have HP:=XL hP;clear hP;obtain⟨m,hm⟩: ∃m,stg.length=m+1:=⟨stg.length-1,by omega⟩;have hm1:1<=m:=by omega
     have hm8:m<=7:=by omega
     have hmk0:=run_make_row' (P:=prog) 26 35 (.slice none 0 0) 24 underlying26 Tryz.infoSlI64 rfl .i64 .i64 m (by omega) (by omega);have hmk1:=run_make_row' (P:=prog) 35 2 (.int .i64 0) 8 underlying35 Tryz.infoI64 rfl .i64 .i64 m (by omega) (by omega);have hsub:((stg.length:Int)-1)=(m:Int):=by omega
     have hmkA: ∀w:World,(Instr.makeSlice 26 (.int .i64 ((stg.length:Int)-1)) (.int .i64 ((stg.length:Int)-1))).run prog w= .ok (.slice (some ⟨w.heap.size,0,none⟩) m m) (w.alloc (.cells (madeCells #[.slice none 0 0] m) 35)):=by rw[hsub];exact hmk0
     clear hmk0 hsub;have HM:=XL hm;have hmle:m<stg.length:=by omega
     have hmge:stg.length<=m+1:=by omega
     clear hm
     go_wp2_with (go_at_call 86;refine(ms _ cap stg _ HR.out (by omega) hcap (by omega) (fun i hi=>by rw[HSq.out i hi];omega)).mono ?_;rintro e w' ⟨rfl,rfl⟩)
     clear hmkA hPd;obtain⟨wo,rfl⟩: ∃wo:World,wo=wr:=⟨_,rfl⟩
     go_loopw [32,7,8,9] (fun i _ _ _ wx=> ∃(r:Nat) (g:Nat->Nat),r<=m/\i= .int .i64 r/\Hid (RV wo wx 35 2 m m r g (fun i j=> .int .i64 (Qp stg last i j)))) (fun i _ _ _ _=>m-(intOf i).toNat)
     case atStart=>exact⟨0,fun _=>0,Yt _,rfl,XL (Ji wo _ _ m m _ _)⟩
     case round=>
      obtain⟨r,g,hr,rfl,HO⟩:=hrel;by_cases hrm:r<m
      ·have hbw:b<wo.heap.size:=tu (p:=⟨b,off,none⟩) hc1;obtain⟨b',off',b3,off3,c3,hbb,hc3,hcap3,hrow⟩:=HR.out.row_ HSq.out (i:=r+1) (by omega);cases hbb;have g0:wr.cell? ⟨b,off+(r+1),none⟩=some (.slice (some ⟨b3,off3,none⟩) stg.length c3):=HO.out.ext.cell hc3;have hst1: ∀o,(wr.alloc o).cell? ⟨wo.heap.size,r,none⟩=some (.slice none 0 0):=fun o=>by
        have:=(HO.out.top.alloc o).cell hrm;simp_all
       have hst2: ∀o,(wr.alloc o).frozen? ⟨wo.heap.size,r,none⟩=false:=fun o=>(HO.out.top.alloc o).frozen r
       have HRow:=XL hrow;clear hrow
       go_wp2_with fail
       have HI0:=XL (Jh (.int .i64 0) HO.out);clear hst1 hst2 g0 hmk1;obtain⟨g',HI,hg'⟩: ∃g':Nat->Nat,Hid (O6 wo ((wr.alloc (.cells (madeCells #[.int .i64 0] m) 2)).setCell ⟨wo.heap.size,r,none⟩ (.slice (some ⟨wr.heap.size,0,none⟩) m m)) 35 2 m m r 0 g' (fun i j=> .int .i64 (Qp stg last i j)) (.int .i64 0))/\Hid (g' r=wr.heap.size):=⟨_,HI0,XL (by simp)⟩;clear HI0
       go_loopw [48,9] (fun i _ wx=> ∃(l:Nat),l<=m/\i= .int .i64 l/\Hid (O6 wo wx 35 2 m m r l g' (fun i j=> .int .i64 (Qp stg last i j)) (.int .i64 0))) (fun i _ _=>m-(intOf i).toNat)
       case atStart=>exact⟨0,Yt _,rfl,HI⟩
       case round=>
        clear HI;obtain⟨l,hl,rfl,HI⟩:=hrel;by_cases hlm:l<m
        ·have t1:wr.cell? ⟨wo.heap.size,r,none⟩=some (.slice (some ⟨g' r,0,none⟩) m m):=by rw[HI.out.top.cell hrm,if_pos (by omega)]
         have t2:wr.cell? ⟨b3,off3+(l+1),none⟩=some (.int .i64 (ent stg (r+1) (l+1))):=HI.out.ext.cell (HRow.out (l+1) (by omega));have t3:wr.cell? ⟨b3,off3,none⟩=some (.int .i64 (ent stg (r+1) 0)):=HI.out.ext.cell (HRow.out 0 (by omega));have t4:wr.cell? ⟨b,off,none⟩=some (.slice (some ⟨b2,off2,none⟩) stg.length c2):=HI.out.ext.cell hc1;have t5:wr.cell? ⟨b2,off2+(l+1),none⟩=some (.int .i64 (ent stg 0 (l+1))):=by
          obtain⟨b',off',b4,off4,c4,hbb,hc4,_,hrow4⟩:=HR.out.row_ HSq.out (i:=0) (by omega);cases hbb;rw[YA,hc1]at hc4;injection hc4 with hc4
          injection hc4 with hc4 _ _
          injection hc4 with hc4
          injection hc4 with e1 e2 _
          subst e1 e2;exact HI.out.ext.cell (hrow4 (l+1) (by omega))
         have t6:wr.cell? ⟨g' r,l,none⟩=some (.int .i64 0):=by rw[HI.out.cur.cell hlm,if_neg (by omega)]
         have t7:wr.frozen? ⟨g' r,l,none⟩=false:=HI.out.cur.frozen l;have hl2:(l:Int)+1<(stg.length:Int):=by omega
         have hl3:l+1<stg.length:=by omega
         have hlast:(last==0)=false:=by simp;omega
         go_wp2_with fail
         go_big_region
         go_wp2_with fail
         go_roundw
         case rel=>exact⟨l+1,by omega,by go_num,XL ((MN HI.out rfl).drew)⟩
         case measure=>simp[intOf];omega
        go_wp2_with fail
        go_roundw
        case rel=>exact⟨r+1,g',by omega,by go_num,XL (MM HI.out (by omega))⟩
        case measure=>simp[intOf];omega
      have hrm':m<=r:=by omega
      have u0:wr.cell? ⟨wo.heap.size,0,none⟩=some (.slice (some ⟨g 0,0,none⟩) m m):=by rw[HO.out.top.cell (by omega),if_pos (by omega)]
      have u1:wr.cell? ⟨g 0,0,none⟩=some (.int .i64 (Qp stg last 0 0)):=by rw[(HO.out.done 0 (by omega)).cell (by omega)]
      obtain⟨b',off',b3,off3,c3,hbb,hc3,hcap3,hrow⟩:=HR.out.row_ HSq.out (i:=1) (by omega);cases hbb;have u2':wr.cell? ⟨b,off+1,none⟩=some (.slice (some ⟨b3,off3,none⟩) stg.length c3):=HO.out.ext.cell hc3;have u3:wr.cell? ⟨b3,off3,none⟩=some (.int .i64 (ent stg 1 0)):=HO.out.ext.cell (by simp);clear hrow hmk1;by_cases hL:DM stg last
      ·have hL':=hL;unfold DM at hL'
       go_wp2_with fail
       go_ret
       exact⟨gY (by
        rw[HF.out,<- HQ.out];obtain⟨f,hf⟩: ∃f,stg.length=f+1:=⟨stg.length-1,by omega⟩;rw[hf,qi,if_neg (by omega),if_pos HP.out,if_pos hL]),HE.out.trans HO.out.ext⟩
      have hL':=hL;unfold DM at hL'
      go_wp2_with fail
      go_roundw
      case rel=>
       have hlen2:(Qq stg last).length=m:=by unfold Qq;rw[oq,HM.out];rfl
       refine⟨some ⟨wo.heap.size,0,none⟩,m,Qq stg last,ent stg 0 0,by rw[hlen2],rfl,by omega,by omega,by omega,by omega,by omega,XL (Sq.nx _ _),XL ?_,XL (HE.out.trans HO.out.ext),XL ?_⟩
       ·have:=HO.out.rd hrm' (by omega);unfold Qq;rw[HM.out];exact this
       rw[<- HQ.out,hlen2]
       conv=>rhs;rw[HM.out,qi,if_neg (by omega),if_pos HP.out,if_neg hL]
      simp_all[SA]
    have hPd:decide (lD stg)=false:=by simp[hP]
    have HF2:Hid (qi stg.length stg last=false):=XL (by
     obtain⟨f,hf⟩: ∃f,stg.length=f+1:=⟨stg.length-1,by omega⟩;grind [qi])
    go_wp2_with (go_at_call 86;refine(ms _ cap stg _ HR.out (by omega) hcap (by omega) (fun i hi=>by rw[HSq.out i hi];omega)).mono ?_;rintro e w' ⟨rfl,rfl⟩)
    go_ret
    exact⟨gY (by rw[HF.out,<- HQ.out,HF2.out]),HE.out⟩
   have hst:stg.length=1:=by omega
   obtain⟨b,off,b2,off2,c2,rfl,hc1,hcap2,hc2⟩:=HR.out.ent_ HSq.out (i:=0) (j:=0) (by omega) (by omega);rw[YA]at hc1 hc2;have HF2:Hid (qi stg.length stg last=(decide (0<ent stg 0 0)&&decide (ent stg 0 0<=10000))):=XL (by grind [qi]);clear hst;by_cases h0:0<ent stg 0 0
   ·go_wp2_with fail
    go_ret
    exact⟨gY (by rw[HF.out,<- HQ.out,HF2.out];simp[h0]),HE.out⟩
   have h0':decide (0<ent stg 0 0)=false:=by grind
   go_wp2_with fail
   go_ret
   exact⟨gY (by rw[HF.out,<- HQ.out,HF2.out,decide_eq_false (by omega)];rfl),HE.out⟩
 have hSd:decide (i6 rows)=false:=by simp[hS]
 go_enter func36,ntmps36
 go_wp2_with (go_at_call 85;refine(sC A c rows _ HX.out lx).mono ?_;rintro e w' ⟨rfl,rfl⟩)
 go_ret
 simp_all[isReducedM,Ext.refl]
def px (b x:List Int):Nat->Int
 |0=>0
 |l+1=>wrap64 (px b x l+wrap64 (b.getD l 0*x.getD l 0))
def fc (c:List (List Int)) (x:List Int):List Int:=c.map fun b=>px b x b.length
theorem xN {i:Nat} (h:(fc b c)[i]?=some x): ∃e,b[i]?=some e/\x=px e c e.length:=by
 grind [fc]
def R6 (b:List (List Int)) (x:List Int) (r l:Nat):Nat->Value:=
 fun j=>if j<r then .int .i64 (px (b.getD j []) x (b.getD j []).length)else if j=r then .int .i64 (px (b.getD j []) x l)else .int .i64 0
theorem uD (h:j<n):R6 b c n m j= .int .i64 (px (b.getD j []) c (b.getD j []).length):=if_pos h
theorem zp:R6 b c n m n= .int .i64 (px (b.getD n []) c m):=by
 grind [R6]
theorem D5 (h:n<j):R6 b c n m j= .int .i64 0:=by
 grind [R6]
theorem Iu (A B:Option Addr) (c d:Nat) (rows:List (List Int)) (x:List Int) (w:World) (hR:qR .i64 w A rows) (hx:RdI .i64 w B x) (hn:rows.length<=65536) (hl: ∀i,i<rows.length->(rows.getD i []).length<=x.length) (hlx:x.length<=9223372036854775807):
  Calls prog 134 #[.slice A rows.length c,.slice B x.length d] w fun e w'=>e= .returned (.slice (some ⟨w.heap.size,0,none⟩) rows.length rows.length)/\RdI .i64 w' (some ⟨w.heap.size,0,none⟩) (fc rows x)/\Ext w w':=by
 have HR:=XL hR;have HX:=XL hx;have HL:=XL hl;clear hR hx hl;have hmk:=run_make_row' (P:=prog) 35 2 (.int .i64 0) 8 underlying35 Tryz.infoI64 rfl .i64 .i64 rows.length (by omega) (by omega)
 go_enter func134,ntmps134
 go_wp2_with fail
 clear hmk
 go_loopw [15,6,7,8,9] (fun i _ _ _ _ wr=> ∃r:Nat,r<=rows.length/\i= .int .i64 r/\Hid (wr.rowIs w.heap.size 2 rows.length (R6 rows x r 0))/\Hid (Ext w wr)) (fun i _ _ _ _ _=>rows.length-(intOf i).toNat)
 case atStart=>exact⟨0,Yt _,rfl,XL ((aaH w (.int .i64 0) rows.length _).congr (fun j _=>by simp[R6,px])),XL ((Ext.refl _).alloc _)⟩
 case round=>
  obtain⟨r,hr,rfl,HO,HE⟩:=hrel;by_cases hlt:r<rows.length
  ·obtain⟨row,ha⟩:=getElem?_of_lt hlt;obtain⟨b,off,BR,cr,rfl,hc,hcr,hlr,hrow⟩:=(HR.out.ext HE.out).at_ ha;have hrl:row.length<=x.length:=by have:=HL.out r hlt;grind
   have HA:=XL ha;have HD:Hid (rows.getD r []=row):=XL (by grind);have HB:Hid (RdI .i64 w BR row):=XL (by
    obtain⟨b',off',BR',cr',h1,h2,_,_,h5⟩:=HR.out.at_ ha;cases h1;rw[HE.out.cell h2]at hc;grind)
   clear ha hrow
   go_wp2_with fail
   obtain⟨wo,rfl⟩: ∃wo:World,wo=wr:=⟨_,rfl⟩
   go_loopw [22,8,9] (fun i _ _ wx=> ∃l:Nat,l<=row.length/\i= .int .i64 l/\Hid (wx.rowIs w.heap.size 2 rows.length (R6 rows x r l))/\Hid (Ext w wx)) (fun i _ _ _=>row.length-(intOf i).toNat)
   case atStart=>exact⟨0,Yt _,rfl,HO,HE⟩
   case round=>
    clear HO HE hc;obtain⟨l,hl,rfl,HO,HE⟩:=hrel;by_cases hll:l<row.length
    ·obtain⟨a,ha⟩:=getElem?_of_lt hll;obtain⟨b2,off2,rfl,hc2⟩:=(HB.out.ext HE.out).at_ ha;obtain⟨a3,ha3⟩:=getElem?_of_lt (l:=x) (k:=l) (by omega);obtain⟨b3,off3,rfl,hc3⟩:=(HX.out.ext HE.out).at_ ha3;have t1:wr.cell? ⟨w.heap.size,r,none⟩=some (.int .i64 (px row x l)):=by
      rw[HO.out.cell hlt,zp,HD.out]
     have t2:wr.frozen? ⟨w.heap.size,r,none⟩=false:=HO.out.frozen r;have HN:Hid (wrap64 (px row x l+wrap64 (a*a3))=px row x (l+1)):=XL (by
      grind [px])
     have hlx2:(l:Int)<(x.length:Int):=by omega
     have HA2:=XL ha;clear ha ha3
     go_wp2_with fail
     go_big_region
     go_wp2_with fail
     go_roundw
     case rel=>
      refine⟨l+1,by omega,by go_num,XL ((((HO.out.set r _).congr (fun j _=>?_))).drew),XL ((HE.out.setCell (XY _) _).drew)⟩;by_cases e:j=r
      ·subst e;rw[if_pos rfl,zp,HD.out,HN.out]
      grind [uD,D5]
     grind [intOf]
    go_wp2_with fail
    go_roundw
    case rel=>
     refine⟨r+1,by omega,by go_num,XL (HO.out.congr (fun j _=>?_)),HE⟩;have:l=row.length:=by omega
     subst this;rcases Y5 j r with h|h|h
     ·rw[uD h,uD (by omega)]
     ·subst h;rw[zp,uD (by omega),HD.out]
     rw[D5 h];by_cases e:j=r+1
     ·subst e;rw[zp];rfl
     grind [D5]
    case measure=>simp[intOf];omega
  go_wp2_with fail
  go_ret
  refine⟨rfl,RdI.of_row HO.out (by simp[fc]) (fun i z hz=>?_),HE.out⟩;grind [xN,uD]
theorem xL (x y c:Int) (f:0<=x) (g:x<18446744073709551616) (h:0<=y) (j:y<18446744073709551616) (b:0<=c) (l:c<=1) (w:World):(callFunc 227 #[.int .u64 x,.int .u64 y,.int .u64 c]).run prog w=
  .ok (.value (.tuple #[.int .u64 ((x+y+c)%18446744073709551616),.int .u64 ((x+y+c)/18446744073709551616)])) w:=by
 obtain⟨x,rfl⟩:=Yg f;obtain⟨y,rfl⟩:=Yg h;obtain⟨c,rfl⟩:=Yg b;rw[run_callFunc_extern func227 (by kernel_rfl) (by kernel_rfl) (by kernel_rfl) (e:=add64Entry) (by kernel_rfl),run_add64 x y c (by omega) (by omega) (by omega) (by omega)];rfl
theorem yP (x y b:Int) (h:0<=x) (j:0<=y) (l:y<18446744073709551616) (c:0<=b) (m:b<=1) (w:World):(callFunc 228 #[.int .u64 x,.int .u64 y,.int .u64 b]).run prog w=
  .ok (.value (.tuple #[.int .u64 ((x-y-b)%18446744073709551616),.int .u64 (if x<y+b then 1 else 0)])) w:=by
 obtain⟨x,rfl⟩:=Yg h;obtain⟨y,rfl⟩:=Yg j;obtain⟨b,rfl⟩:=Yg c;have f:(((x+18446744073709551616-y-b)%18446744073709551616:Nat):Int)=((x:Int)-y-b)%18446744073709551616:=by omega
 have g:((if x<y+b then 1 else 0:Nat):Int)=if(x:Int)<y+b then 1 else 0:=by grind
 rw[<- f,<- g];rw[run_callFunc_extern func228 (by kernel_rfl) (by kernel_rfl) (by kernel_rfl) (e:=sub64Entry) (by kernel_rfl),run_sub64 x y b (by omega)];rfl
theorem Je (x y:Nat) (hx:x<18446744073709551616) (hy:y<18446744073709551616) (w:World):
  Calls prog 226 #[.int .u64 x,.int .u64 y] w fun e w'=>e= .returned (.tuple #[.int .u64 ((x*y/18446744073709551616:Nat):Int),.int .u64 ((x*y%18446744073709551616:Nat):Int)])/\w=w':=by
 obtain⟨bd,bt,bw,hhi⟩:=Lib.mul64_hi x y hx hy;have ba:=abl (a:=x/4294967296) (b:=y/4294967296) (by omega) (by omega);have bb:=abl (a:=x/4294967296) (b:=y%4294967296) (by omega) (by omega);have bc:=abl (a:=x%4294967296) (b:=y/4294967296) (by omega) (by omega);have ba':x/4294967296*(y/4294967296)<18446744073709551616:=by omega
 have bb':x/4294967296*(y%4294967296)<18446744073709551616:=by omega
 have bc':x%4294967296*(y/4294967296)<18446744073709551616:=by omega
 have bh1:x/4294967296*(y/4294967296)+(x/4294967296*(y%4294967296)+x%4294967296*(y%4294967296)/4294967296)/4294967296<18446744073709551616:=by omega
 have bh:x/4294967296*(y/4294967296)+(x/4294967296*(y%4294967296)+x%4294967296*(y%4294967296)/4294967296)/4294967296+((x/4294967296*(y%4294967296)+x%4294967296*(y%4294967296)/4294967296)%4294967296+x%4294967296*(y/4294967296))/4294967296<18446744073709551616:=by omega
 go_enter func226,ntmps226
 go_wp2
 simp only[ab4 x hx,ab4 y hy,Mul64.divN,Mul64.mulN,Mul64.addN,aaj _ bd,aaj _ bb',aaj _ bt,ab4 _ bt,aaj _ bc',aaj _ bw,aaj _ ba',aaj _ bh1,aaj _ bh,Mul64.wrapM (x*y)];rw[hhi]
 go_ret2
 simp
def wd (n:Nat):Value:= .agg #[.int .u64 ((n/18446744073709551616:Nat):Int),.int .u64 ((n%18446744073709551616:Nat):Int)]
theorem D4 (x y:Int) (e:0<=x) (b:x<18446744073709551616) (f:0<=y) (c:y<18446744073709551616) (w:World):(callFunc 227 #[.int .u64 x,.int .u64 y,.int .u64 0]).run prog w=
  .ok (.value (.tuple #[.int .u64 ((x+y)%18446744073709551616),.int .u64 ((x+y)/18446744073709551616)])) w:=by
 grind [xL]
theorem Dz (n x y:Nat) (hx:x<18446744073709551616) (hy:y<18446744073709551616) (hn:n+x*y<340282366920938463463374607431768211456) (w:World):
  Calls prog 194 #[wd n,.int .u64 x,.int .u64 y] w fun e w'=>e= .returned (wd (n+x*y))/\Ext w w':=by
 have hp:x*y/18446744073709551616<18446744073709551616:=by omega
 obtain⟨nh,hnh⟩: ∃k:Nat,k=n/18446744073709551616:=⟨_,rfl⟩;obtain⟨nl,hnl⟩: ∃k:Nat,k=n%18446744073709551616:=⟨_,rfl⟩;obtain⟨ph,hph⟩: ∃k:Nat,k=x*y/18446744073709551616:=⟨_,rfl⟩;obtain⟨pl,hpl⟩: ∃k:Nat,k=x*y%18446744073709551616:=⟨_,rfl⟩;have b1:(nh:Int)<18446744073709551616:=by omega
 have b2:(nl:Int)<18446744073709551616:=by omega
 have b3:(ph:Int)<18446744073709551616:=by omega
 have b4:(pl:Int)<18446744073709551616:=by omega
 have c1:0<=((nl:Int)+(pl:Int))/18446744073709551616:=by omega
 have c2:((nl:Int)+(pl:Int))/18446744073709551616<=1:=by omega
 have HM:=XL (Je x y hx hy);have HLo:Hid (((nl:Int)+(pl:Int))%18446744073709551616=((n:Int)+(x:Int)*(y:Int))%18446744073709551616):=XL (by
  omega)
 have HHi:Hid (((nh:Int)+(ph:Int)+((nl:Int)+(pl:Int))/18446744073709551616)%18446744073709551616=((n:Int)+(x:Int)*(y:Int))/18446744073709551616):=XL (by
  omega)
 unfold wd;rw[<- hnh,<- hnl]at*
 rw[<- hph,<- hpl]at*
 have e1:=D4 nl pl (by omega) b2 (by omega) b4;have e2:=xL nh ph _ (by omega) b1 (by omega) b3 c1 c2;clear hnh hnl hph hpl hn hp
 go_enter func194,ntmps194
 go_wp2_with (first|(go_at_call 226;refine(HM.out _).mono ?_;rintro e w' ⟨rfl,rfl⟩)|simp only[e1]|simp only[e2])
 refine bodyPost_ret (v:= .agg #[.int .u64 ((((n+x*y)/18446744073709551616:Nat):Int)),.int .u64 ((((n+x*y)%18446744073709551616:Nat):Int))]) ?_ rfl ⟨rfl,?_⟩
 ·simp[results,results194,go_sem];exact⟨HHi.out,HLo.out⟩
 exact((Ext.refl _).alloc _).alloc _
def F3 (n m:Nat):Option Nat:=if m<=n/\n-m<=4611686018427387904 then some (n-m)else none
def ic (n m:Nat):Value:=match F3 n m with
 |some k=> .tuple #[.int .i64 k,.bool true]
 |none=> .tuple #[.int .i64 0,.bool false]
theorem ig (h: ¬(m<=n/\n-m<=4611686018427387904)):ic n m= .tuple #[.int .i64 0,.bool false]:=by
 grind [ic,F3]
theorem mo (h:m<=n/\n-m<=4611686018427387904) {d:Int} (b:((n-m:Nat):Int)=d):ic n m= .tuple #[.int .i64 d,.bool true]:=by
 grind [ic,F3]
theorem Fx (x y:Int) (c:0<=x) (e:0<=y) (b:y<18446744073709551616) (w:World):(callFunc 228 #[.int .u64 x,.int .u64 y,.int .u64 0]).run prog w=
  .ok (.value (.tuple #[.int .u64 ((x-y)%18446744073709551616),.int .u64 (if x<y then 1 else 0)])) w:=by
 grind [yP]
theorem xr (n m:Nat) (hn:n<340282366920938463463374607431768211456) (hm:m<340282366920938463463374607431768211456) (w:World):
  Calls prog 195 #[wd n,wd m] w fun e w'=>e= .returned (ic n m)/\Ext w w':=by
 obtain⟨nh,hnh⟩: ∃k:Nat,k=n/18446744073709551616:=⟨_,rfl⟩;obtain⟨nl,hnl⟩: ∃k:Nat,k=n%18446744073709551616:=⟨_,rfl⟩;obtain⟨mh,hmh⟩: ∃k:Nat,k=m/18446744073709551616:=⟨_,rfl⟩;obtain⟨ml,hml⟩: ∃k:Nat,k=m%18446744073709551616:=⟨_,rfl⟩;have b1:(nh:Int)<18446744073709551616:=by omega
 have b2:(nl:Int)<18446744073709551616:=by omega
 have b3:(mh:Int)<18446744073709551616:=by omega
 have b4:(ml:Int)<18446744073709551616:=by omega
 have HE:Hid (n=nh*18446744073709551616+nl/\m=mh*18446744073709551616+ml):=XL (by omega);obtain⟨V,hV⟩: ∃V,V=ic n m:=⟨_,rfl⟩;unfold wd;rw[<- hnh,<- hnl,<- hmh,<- hml,<- hV];have HV:=XL hV;clear hnh hnl hmh hml hV hn hm;have e1:=Fx nl ml (by omega) (by omega) b4;obtain⟨b,hb⟩: ∃b:Int,b=if(nl:Int)<ml then 1 else 0:=⟨_,rfl⟩
 have hb':b=0/\(ml:Int)<=nl\/b=1/\(nl:Int)<ml:=by omega
 have hb0:0<=b:=by omega
 have hb1:b<=1:=by omega
 have e2:=yP nh mh b (by omega) (by omega) b3 hb0 hb1;rw[<- hb]at e1;clear hb;obtain⟨dl,hdl⟩: ∃k:Int,k=((nl:Int)-ml)%18446744073709551616:=⟨_,rfl⟩;obtain⟨dh,hdh⟩: ∃k:Int,k=((nh:Int)-mh-b)%18446744073709551616:=⟨_,rfl⟩;obtain⟨b2',hb2⟩: ∃k:Int,k=if(nh:Int)<mh+b then 1 else 0:=⟨_,rfl⟩
 rw[<- hdl]at e1;rw[<- hdh,<- hb2]at e2;have d0:0<=dl:=by omega
 have d1:dl<18446744073709551616:=by omega
 have d2:0<=dh:=by omega
 have d3:dh<18446744073709551616:=by omega
 have HD:=XL (XJ hdl (XJ hdh (XJ hb2 hb')));clear hdl hdh hb2 hb';by_cases g1:b2'=0
 ·have g1':(b2' !=0)=false:=by simp[g1]
  have G1:=XL g1;clear g1;by_cases g2:dh=0
  ·have g2':(dh !=0)=false:=by simp[g2]
   have G2:=XL g2;clear g2;by_cases g3:4611686018427387904<dl
   ·go_enter func195,ntmps195
    go_wp2_with (first|simp only[e1]|simp only[e2])
    go_ret2
    refine⟨?_,((Ext.refl _).alloc _).alloc _⟩;rw[HV.out];obtain⟨q1,q2,q3,q4⟩:=HD.out;obtain⟨q5,q6⟩:=HE.out;have q7:=G1.out;have q8:=G2.out
    (rw[ig (by omega)])<;>rfl
   go_enter func195,ntmps195
   go_wp2_with (first|simp only[e1]|simp only[e2])
   go_ret2
   refine⟨?_,((Ext.refl _).alloc _).alloc _⟩;rw[HV.out];obtain⟨q1,q2,q3,q4⟩:=HD.out;obtain⟨q5,q6⟩:=HE.out;have q7:=G1.out;have q8:=G2.out
   (rw[mo (by omega) (d:=dl) (by omega)])<;>rfl
  have g2':(dh !=0)=true:=by simp[g2]
  go_enter func195,ntmps195
  go_wp2_with (first|simp only[e1]|simp only[e2])
  go_ret2
  refine⟨?_,((Ext.refl _).alloc _).alloc _⟩;rw[HV.out];obtain⟨q1,q2,q3,q4⟩:=HD.out;obtain⟨q5,q6⟩:=HE.out;have q7:=G1.out
  (rw[ig (by omega)])<;>rfl
 have g1':(b2' !=0)=true:=by simp[g1]
 go_enter func195,ntmps195
 go_wp2_with (first|simp only[e1]|simp only[e2])
 go_ret2
 refine⟨?_,((Ext.refl _).alloc _).alloc _⟩;rw[HV.out];obtain⟨q1,q2,q3,q4⟩:=HD.out;obtain⟨q5,q6⟩:=HE.out
 (rw[ig (by omega)])<;>rfl
end Go.Proofs.YtalmoejhjceflaaGreat
