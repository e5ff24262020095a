/-
  Part 1 of a proof (walks and plain facts).
-/
import Derived.Test.YtalmoejhjceflaaGreatRows
import Derived.WalkKit
import Derived.WalkSpells
import Derived.WalkLawsBesides
import Derived.Deep.QuietTactic
import Derived.BigQuiet
import Derived.Lib.Hide
import Derived.Deep.Draws
import Derived.Deep.AppendLies
import Derived.Laws.OwnMore
import Derived.ProofKit
import Derived.OpenShut
import Derived.ShutString
import Derived.ChangeOld
import Derived.Below
import Derived.SizedLaws
import Derived.Deep.OwnRows
import Derived.Deep.LoopGhost
import Derived.Deep.Light
import Derived.Deep.Cut
import Derived.Deep.CutRange
import Derived.CellFam
import Derived.BigGuard
import Derived.BigRegion
import Derived.Maps.AppendAt
import Derived.RegionTactic
import Derived.OwnWalk
set_option linter.all false
set_option maxRecDepth 100000
set_option maxHeartbeats 64000000
namespace Go.Proofs.YtalmoejhjceflaaGreat
open Go.RowKit Go.Proofs.Tryz
def acd:=@List.mem_of_getElem?.{0}
def ace:=@And.intro
def acf:=@Option.map_eq_some_iff.{0,0}
def acg:=@Lib.hid
def ach:=@List.getElem?_map.{0,0}
def aci:=@List.getElem?_eq_some_iff.{0}
def acj:=@Result.andThen_ok
def ack:=@List.take_of_length_le.{0}
def acl:=@Nat.le_trans
def acm:=@List.getD_eq_getElem?_getD.{0}
def acn:=@List.mem_map.{0,0}
def aco:=@List.mem_singleton.{0}
def acp:=@Nat.lt_of_lt_of_le
def acq:=@Nat.mul_le_mul_left
def acr:=@List.all_eq_true.{0}
def acs:=@Nat.le_refl
def acu:=@Nat.mul_le_mul_right
def acv:=@Sem.run_bind
def acw:=@Int.mul_le_mul_of_nonneg_left
def acx:=@List.getElem?_append_left.{0}
def acy:=@List.getElem?_eq_getElem.{0}
def acz:=@List.ext_getElem?.{0}
def acA:=@List.map_cons.{0,0}
def acB:=@Array.getElem?_eq_some_iff.{0}
def acC:=@List.length_cons.{0}
def acD:=@List.getElem?_append_right.{0}
def acE:=@Nat.pow_le_pow_left
def acF:=@Nat.pow_le_pow_right
def acG:=@Option.bind_eq_some_iff.{0,0}
def acH:=@List.map_congr_left.{0,0}
def acI:=@List.append_assoc.{0}
def acJ:=@List.length_append.{0}
def acK:=@List.range_eq_range'
def acL:=@Nat.zero_le
def acM:=@Nat.mod_lt
def acN:=@Bool.and_eq_true
def acO:=@Int.eq_ofNat_of_zero_le
def acP:=@Int.mul_nonneg
def acQ:=@Nat.zero_add
def acR:=@List.mem_cons.{0}
def acS:=@List.getElem?_set_self.{0}
def acT:=@List.map_nil.{0,0}
def acU:=@Nat.mul_le_mul
def acV:=@List.mem_range
def acW:=@List.range'_succ
def acX:=@List.length_replicate.{0}
def acY:=@List.length_take.{0}
def acZ:=@Int.mul_le_mul
def ac0:=@List.length_map.{0,0}
def ac1:=@List.map_append.{0,0}
def ac2:=@Int.mul_le_mul_of_nonneg_right
def ac3:=@Int.mul_nonneg_of_nonpos_of_nonpos
def ac4:=@List.getElem?_set_ne.{0}
def ac5:=@List.getElem?_replicate.{0}
def ac6:=@List.mem_cons_of_mem.{0}
def ac7:=@List.range'_append_1
def ac8:=@Array.getElem?_append_left.{0}
def ac9:=@Nat.add_zero
def ada:=@Bool.false_eq_true
def adb:=@IntKind.wrap_u64
def adc:=@List.append_nil.{0}
def ade:=@List.range_succ
def adf:=@List.mem_cons_self.{0}
def adg:=@Nat.pow_pos
def adh:=@List.mem_append.{0}
def adi:=@Int.tdiv_eq_ediv_of_nonneg
def adj:=@List.getElem?_set.{0}
def adk:=@Nat.pow_succ
def adl:=@Sem.run_pure
def adm:=@List.getElem?_take.{0}
def adn:=@Nat.lt_of_le_of_lt
def ado:=@List.not_mem_nil.{0}
def adp:=@Array.getElem?_map.{0,0}
def adq:=@List.getElem?_drop.{0}
def adr:=@List.mem_iff_getElem?.{0}
def ads:=@Option.getD_some.{0}
def adt:=@Int.natAbs_mul
def adu:=@Nat.mul_comm
def adv:=@Nat.pow_add
def adw:=@Nat.pow_lt_pow_right
def adx:=@Option.isNone_none.{0}
def ady:=@Array.getElem?_append_right.{0}
def adz:=@Classical.choose_spec.{1}
def adA:=@List.getElem_of_mem.{0}
def adB:=@Option.map_some.{0,0}
def adC:=@List.drop_zero.{0}
def adD:=@List.size_toArray.{0}
def adE:=@Nat.lt_trichotomy
def adF:=@List.drop_eq_getElem_cons.{0}
def adG:=@List.mem_or_eq_of_mem_set.{0}
def adH:=@List.map_map.{0,0,0}
def adI:=@Nat.div_div_eq_div_mul
def adJ:=@List.take_length.{0}
def adK:=@List.drop_succ_cons.{0}
def adL:=@List.map_id.{0}
def adM:=@Nat.div_lt_iff_lt_mul
def adN:=@Nat.add_comm
def adO:=@Nat.le_mul_of_pos_right
def adP:=@List.nil_append.{0}
def adQ:=@List.zipIdx_cons.{0}
def adR:=@Nat.mod_eq_of_lt
def adS:=@List.take_succ_cons.{0}
def adT:=@Int.le_refl
def adU:=@List.take_add_one.{0}
def adV:=@List.set_append_right.{0}
def adW:=@Int.ediv_nonneg
def adX:=@List.pairwise_cons.{0}
def adY:=@List.getElem?_cons_succ.{0}
def adZ:=@List.getElem?_cons_zero.{0}
def ad0:=@List.length_eq_zero_iff.{0}
def ad1:=@Nat.mul_assoc
def ad2:=@Int.le_of_lt
def ad3:=@List.range_succ_eq_map
def ad4:=@List.take_succ_eq_append_getElem.{0}
def ad5:=@Int.eq_of_mul_eq_mul_left
def ad6:=@List.getElem?_eq_none.{0}
def ad7:=@Int.le_of_not_gt
def ad8:=@IntKind.wrap_u32
def ad9:=@List.cons_append.{0}
def aea:=@List.length_drop.{0}
def aeb:=@Option.bind_some.{0,0}
def aec:=@Int.le_total
def aed:=@Ne.symm.{1}
def aee:=@List.eq_nil_of_length_eq_zero.{0}
def aef:=@List.mem_of_mem_take.{0}
def aeg:=@Bool.or_eq_true
def aeh:=@Int.lt_ediv_add_one_mul_self
def aei:=@List.length_nil.{0}
def aej:=@List.nodup_cons.{0}
def aek:=@List.zipIdx_nil.{0}
def ael:=@Int.le_ediv_iff_mul_le
def aem:=@Int.lt_or_le
def aen:=@List.drop_of_length_le.{0}
def aeo:=@List.filter_eq_nil_iff.{0}
def aep:=@Nat.mul_lt_mul_of_pos_right
def aeq:=@Nat.sub_self
def aer:=@List.flatMap_nil.{0,0}
def aes:=@Int.mul_nonpos_of_nonneg_of_nonpos
def aet:=@Int.tmod_eq_emod_of_nonneg
def aeu:=@List.all_replicate.{0}
def aev:=@List.mem_replicate.{0}
def aew:=@List.set_cons_zero.{0}
def aex:=@Nat.lt_of_mul_lt_mul_right
def aey:=@List.length_filter_le.{0}
def aez:=@List.ne_nil_of_length_pos.{0}
def aeA:=@List.mem_filter.{0}
def aeB:=@Nat.div_add_mod
def aeC:=@Nat.div_le_self
def aeD:=@IntWalk.wrap64_in
def aeE:=@List.drop_eq_nil_iff.{0}
def aeF:=@List.flatMap_cons.{0,0}
def aeG:=@List.length_range
def aeH:=@List.mem_of_mem_drop.{0}
def aeI:=@List.replicate_succ'.{0}
def aeJ:=@Nat.div_lt_of_lt_mul
def aeK:=@Function.comp_apply.{1,1,1}
def aeL:=@List.replicate_succ.{0}
def aeM:=@List.take_zero.{0}
def aeN:=@OpenClaim.holds_of_wide
def aeO:=@Int.zero_add
def aeP:=@List.set_cons_succ.{0}
def aeQ:=@Nat.le_mul_of_pos_left
def aeR:=@Nat.le_of_lt
def aeS:=@Nat.zero_mul
def aeT:=@Option.map_none.{0,0}
def aeU:=@Nat.add_assoc
def aeV:=@Array.getD_eq_getD_getElem?.{0}
def aeW:=@List.filter_congr.{0}
def aeX:=@World.ownsRow_nil
def aeY:=@Int.ofNat_tmod
def aeZ:=@List.takeWhile_cons_of_pos.{0}
def ae0:=@Nat.add_mul
def ae1:=@Addr.add_lit
def ae2:=@Below.heap_alloc
def ae3:=@Int.ediv_le_self
def ae4:=@List.drop_length.{0}
def ae5:=@Nat.div_eq_of_lt
def ae6:=@Nat.lt_or_ge
def ae7:=@Int.le_of_mul_le_mul_left
def ae8:=@ChangeSpec.witness6
def ae9:=@Array.getElem?_replicate.{0}
def afa:=@Int.mul_tdiv_cancel_left
def afb:=@List.drop_left'.{0}
def afc:=@List.take_left'.{0}
def afd:=@Nat.min_eq_left
def afe:=@List.filter_append.{0}
def aff:=@Nat.mul_div_cancel
def afg:=@World.ownsRow_made
def afh:=@Nat.mul_one
def afi:=@Bool.false_and
def afj:=@Int.ofNat_le
def afk:=@IntWalk.i64_in
def afl:=@Nat.mul_left_comm
def afm:=@Array.getElem?_setIfInBounds_ne.{0}
def afn:=@Nat.le_div_iff_mul_le
def afo:=@Nat.mul_mod_mul_right
def afp:=@IntKind.wrap_i64
def afq:=@List.eq_nil_iff_forall_not_mem.{0}
def afr:=@List.map_toArray.{0,0}
def afs:=@List.mem_flatMap.{0,0}
def afu:=@World.rowIs_made
def afv:=@Bool.true_and
def afw:=@DataW.trod_lt
def afx:=@Int.ediv_emod_unique
def afy:=@World.cell?_alloc_lt
def afz:=@Int.mul_ediv_mul_of_pos_left
def afA:=@List.length_set.{0}
def afB:=@Nat.le_add_left
def afC:=@Nat.testBit_two_pow_sub_succ
def afD:=@Nat.two_pow_pos
def afE:=@Array.length_toList.{0}
def afF:=@List.length_flatMap.{0,0}
def afG:=@List.replicate_zero.{0}
def afH:=@Nat.div_mul_le_self
def afI:=@Nat.testBit_two_pow
def afJ:=@Int.zero_mul
def afK:=@Below.heap_setCell
def afL:=@Int.emod_lt_of_pos
def afM:=@Int.natAbs_natCast
def afN:=@List.append_of_mem.{0}
def afO:=@List.mem_filterMap.{0,0}
def afP:=@List.mem_of_find?_eq_some.{0}
def afQ:=@Nat.le_of_mul_le_mul_left
def afR:=@World.cell?_setCell_other
def afS:=@Function.comp_def.{1,1,1}
def afT:=@Int.mul_pos
def afU:=@Int.natAbs_add_le
def afV:=@Int.one_mul
def afW:=@List.isEmpty_cons.{0}
def afX:=@Nat.mul_pos
def afY:=@Nat.or_lt_two_pow
def afZ:=@World.rowIs_alloc
def af0:=@List.sum_cons.{0}
def af1:=@Option.isSome_iff_exists.{0}
def af2:=@Nat.add_sub_cancel_left
def af3:=@Nat.le_add_right
def af4:=@Nat.le_of_not_lt
def af5:=@Nat.lt_succ_self
def af6:=@Nat.succ_pred_eq_of_pos
def af7:=@Nat.testBit_mul_two_pow
def af8:=@WalkArith.wf_i64
def af9:=@Below.trod
def aga:=@List.length_pos_of_mem.{0}
def agb:=@Nat.testBit_lt_two_pow
def agc:=@World.frozen?_of_block
def agd:=@Int.ediv_mul_le
def age:=@Int.emod_nonneg
def agf:=@Int.mul_ne_zero
def agh:=@Int.natCast_pow
def agi:=@List.find?_cons.{0}
def agj:=@List.foldl_cons.{0,0}
def agk:=@Nat.mul_add_div
def agl:=@Int.emod_add_mul_ediv
def agm:=@Int.le_ediv_of_mul_le
def agn:=@Lib.run_eql_slice_nil
def ago:=@List.pairwise_flatMap.{0,0}
def agp:=@List.take_append_drop.{0}
def agq:=@Nat.add_sub_add_right
def ags:=@Array.getElem_of_mem.{0}
def agt:=@List.getElem?_mapIdx.{0,0}
def agu:=@Maps.int_keyed
def agv:=@Nat.add_le_add_right
def agw:=@Nat.eq_of_testBit_eq
def agx:=@Nat.testBit_or
def agy:=@Int.ediv_mul_cancel
def agz:=@List.filter_eq_self.{0}
def agA:=@List.getD_cons_succ.{0}
def agB:=@List.getElem?_range
def agC:=@Bool.and_true
def agD:=@Bool.or_false
def agE:=@Int.mul_assoc
def agF:=@Nat.lt_irrefl
def agG:=@BitVec.toNat_ofInt
def agI:=@Int.natCast_nonneg
def agJ:=@Int.sub_eq_add_neg
def agK:=@List.map_replicate.{0,0}
def agL:=@Nat.mul_right_comm
def agN:=@Int.add_zero
def agP:=@Int.mul_comm
def agQ:=@Int.mul_zero
def agT:=@List.map_set.{0,0}
def agV:=@List.set_set.{0}
def agX:=@Nat.pow_zero
def ag5:=@Int.add_mul
def ag6:=@Int.mul_one
def ag7:=@Nat.mul_add
def ag8:=@Nat.one_mul
def aha:=@Prod.mk.inj.{0,0}
def ahn:=@Eq.trans.{1}
abbrev FF:=Nat->Nat->Int
variable {w W:World} {n m j:Nat} {b:TypeId} {c:List Int} {e:Value} {f:Nat->Nat->Value} {g:Option Addr} {h:List Value} {l:Nat->Nat} {o:List (List Int)} {p:Nat->Value} {x:Int} {q:Addr}
variable {r:FF}
def Ext (w b:World):Prop:=Below w.heap.size w b
theorem Ext.refl (w:World):Ext w w:=Below.refl _ _
theorem Ext.trans {a:World} (h:Ext a w) (k:Ext w W):Ext a W:=Below.trans h (Below.mono k h.size)
theorem Ext.drew {a:World} (h:Ext a w):Ext a w.drew:=Below.drew h
theorem Ext.drewN {a:World} (h:Ext a w) (n:Nat):Ext a (w.drewN n):=⟨h.os,h.tape,h.output,h.size,h.block⟩
theorem Ext.alloc {a:World} (h:Ext a w) (o:Obj):Ext a (w.alloc o):=Below.alloc h h.size o
theorem Ext.setCell {a:World} (h:Ext a w) (c:a.heap.size<=q.block) (u:Value):Ext a (w.setCell q u):=Below.setCell h c u
theorem Ext.grown {a:World} {e:Option Nat} (h:Ext a w) (f:w.grownBy W e) (g: ∀k,e=some k->a.heap.size<=k):Ext a W:=
 Below.grown h f h.size g
theorem Ext.cell {a:World} (h:Ext a w) (f:a.cell? q=some e):w.cell? q=some e:=by
 have c:q.block<a.heap.size:=by
  grind [World.cell?]
 rw[Below.cell h c];exact f
theorem Ext.size {a:World} (h:Ext a w):a.heap.size<=w.heap.size:=Below.size h
theorem xT {p:Addr} (b:w.cell? p=some e):p.block<w.heap.size:=by
 grind [World.cell?]
def Rd (w:World) (A:Option Addr) (e:List Value):Prop:=
 e≠[]-> ∃b c,A=some ⟨b,c,none⟩/\ ∀i x,e[i]?=some x->w.cell? ⟨b,c+i,none⟩=some x
theorem Rd.nil (w:World) (A:Option Addr):Rd w A []:=fun h=>absurd rfl h
theorem Rd.ext (c:Rd w g h) (k:Ext w W):Rd W g h:=fun e=>by
 obtain⟨b,f,rfl,j⟩:=c e;exact⟨b,f,rfl,fun i x l=>k.cell (j i x l)⟩
theorem Rd.at_ (c:Rd w g h) {k:Nat} (l:h[k]?=some e):
  ∃b f,g=some ⟨b,f,none⟩/\w.cell? ⟨b,f+k,none⟩=some e:=by
 obtain⟨b,f,rfl,j⟩:=c (by grind);grind
def RdI (k:IntKind) (w:World) (A:Option Addr) (b:List Int):Prop:=Rd w A (b.map (Value.int k))
theorem RdI.nil (k:IntKind) (w:World) (A:Option Addr):RdI k w A []:=Rd.nil w A
theorem RdI.ext {k:IntKind} (h:RdI k w g c) (e:Ext w W):RdI k W g c:=Rd.ext h e
theorem RdI.at_ {k:IntKind} (h:RdI k w g c) {i:Nat} (f:c[i]?=some x):
  ∃b e,g=some ⟨b,e,none⟩/\w.cell? ⟨b,e+i,none⟩=some (.int k x):=Rd.at_ h (by simp[f])
def SlI (k:IntKind) (w:World) (v:Value) (b:List Int):Prop:=
 ∃B c,v= .slice B b.length c/\b.length<=c/\b.length<=9223372036854775807/\RdI k w B b
theorem SlI.ext {k:IntKind} (h:SlI k w e c) (f:Ext w W):SlI k W e c:=by
 obtain⟨B,b,g,j,l,m⟩:=h;exact⟨B,b,g,j,l,m.ext f⟩
def vy (k:IntKind) (w:World) (A:Option Addr) (c:List (List Int)):Prop:=
 c≠[]-> ∃b e,A=some ⟨b,e,none⟩/\ ∀i r,c[i]?=some r-> ∃v,w.cell? ⟨b,e+i,none⟩=some v/\SlI k w v r
theorem vy.nil (k:IntKind) (w:World) (A:Option Addr):vy k w A []:=fun h=>absurd rfl h
theorem vy.ext {k:IntKind} (h:vy k w g o) (e:Ext w W):vy k W g o:=fun c=>by
 obtain⟨b,f,rfl,m⟩:=h c;exact⟨b,f,rfl,fun i r n=>by obtain⟨v,j,l⟩:=m i r n;exact⟨v,e.cell j,l.ext e⟩⟩
theorem vy.at_ {k:IntKind} (h:vy k w g o) {i:Nat} (l:o[i]?=some c):
  ∃b f B e,g=some ⟨b,f,none⟩/\w.cell? ⟨b,f+i,none⟩=some (.slice B c.length e)/\c.length<=e/\c.length<=9223372036854775807/\RdI k w B c:=by
 obtain⟨b,f,rfl,j⟩:=h (by grind);obtain⟨v,m,B,e,rfl,n,p,q⟩:=j i c l;grind
theorem getElem?_of_lt {b:Type} {l:List b} {k:Nat} (h:k<l.length): ∃x,l[k]?=some x:=⟨l[k],acy h⟩
theorem iM {k:IntKind} {a:Int} (h:a=x):Ending.returned (.int k a)= .returned (.int k x):=by rw[h]
theorem jz {a b:Bool} (h:a=b):Ending.returned (.bool a)= .returned (.bool b):=by rw[h]
section
open Go.ChangeShapes Go.WideShapes Go.ChangeAt Go.RowKit
theorem Tryz.ownKnob_:ownKnob prog.godebug=none:=by kernel_rfl
theorem Tryz.laidOut_:laidOutB prog=true:=by kernel_rfl
theorem ST {H:Type} {enc:TypeId×Value->H} {P:Program} {base:Nat} {held:Bool} {e:TypeId} {k:IntKind} {a:Option Addr} {len cap:Nat} {d:DataW H} {p:List MemPlace} (F:P.underlying b=some (.slice e)) (z:P.underlying e=some (.int k)) (v:P.cellsOf e=1) (h:DataW.Trod enc P w base (fun _=>true) held b (.slice a len cap) d p):
  ∃o:List Int,len=o.length/\len<=cap/\cap<=maxLen/\RdI k w a o/\(∀n∈o,(Lit.int k n).wf=true)/\((d= .nil/\len=0)\/ ∃j,d= .slice (lits k o) j/\j.length=cap-len):=by
 obtain⟨u,A⟩:=h;rcases open_ints F z v A with⟨g,s⟩|⟨x,l,c,o,g,_,B,C,G,s,m,r⟩
 ·simp[Value.cells]at g;obtain⟨rfl,rfl,rfl⟩:=g;exact⟨[],rfl,acs _,acL _,RdI.nil _ _ _,by simp,.inl ⟨(aha s).1,rfl⟩⟩
 simp[Value.cells]at g;obtain⟨rfl,rfl,rfl⟩:=g;simp at G;refine⟨o.take len,by simp;omega,B,C,fun E=>?_,fun n D=>r n (aef D),.inr ⟨_,(aha s).1,by grind [lits]⟩⟩;have q:0<o.length:=by
  grind
 obtain⟨f,I,rfl,y⟩:=ints_at m q;grind
theorem UC (h:(Lit.int .i8 x).wf=true): -128<=x/\x<=127:=by
 grind [Lit.wf,IntKind.min,IntKind.max,IntKind.signed,IntKind.bits]
theorem mb (h:(Lit.int .u8 x).wf=true):0<=x/\x<=255:=by
 simp_all[Go.bounds_u8]
end
theorem di (h:w.rowIs n b m p) (e:Ext w W):W.rowIs n b m p:=h.of_block (e.block n h.lt)
theorem qt (h:w.rowIs n b m p) (k:Nat):(w.drewN k).rowIs n b m p:=h
theorem RdI.of_row {k:IntKind} (h:w.rowIs n b m p) (o:c.length<=m) (j: ∀i z,c[i]?=some z->p i= .int k z):
  RdI k w (some ⟨n,0,none⟩) c:=fun _=>⟨n,0,rfl,fun i x e=>by
 rw[ach]at e;cases g:c[i]? with
 |none=>grind
 |some z=>
  rw[g]at e;have l:i<c.length:=by
   grind
  rw[acQ,h.cell (by omega),j i z g];grind⟩
structure X6 (w wr:World) (tr te:TypeId) (n m r:Nat) (g:Nat->Nat) (Z:Nat->Nat->Value):Prop where
 ext:Ext w wr
 top:wr.rowIs w.heap.size tr n (fun j=>if j<r then .slice (some ⟨g j,0,none⟩) m m else .slice none 0 0)
 gt: ∀j,j<r->w.heap.size<g j
 done: ∀j,j<r->wr.rowIs (g j) te m (Z j)
structure U3 (w wi:World) (tr te:TypeId) (n m r c:Nat) (g:Nat->Nat) (Z:Nat->Nat->Value) (z:Value):Prop where
 ext:Ext w wi
 top:wi.rowIs w.heap.size tr n (fun j=>if j<r+1 then .slice (some ⟨g j,0,none⟩) m m else .slice none 0 0)
 gt: ∀j,j<r+1->w.heap.size<g j
 ne: ∀j,j<r->g j≠g r
 done: ∀j,j<r->wi.rowIs (g j) te m (Z j)
 cur:wi.rowIs (g r) te m (fun i=>if i<c then Z r i else z)
theorem OA (w:World) (tr c:TypeId) (n m:Nat) (g:Nat->Nat) (Z:Nat->Nat->Value):X6 w (w.alloc (.cells (madeCells #[.slice none 0 0] n) tr)) tr c n m 0 g Z:=
 ⟨(Ext.refl _).alloc _,(afu w _ n tr).congr (fun j _=>by simp),fun j b=>absurd b (Nat.not_lt_zero _),fun j b=>absurd b (Nat.not_lt_zero _)⟩
theorem X6.lt {tr:TypeId} (h:X6 w W tr b n m j l f):w.heap.size<W.heap.size:=h.top.lt
theorem Oz {tr:TypeId} (z:Value) (h:X6 w W tr b n m j l f):
  U3 w ((W.alloc (.cells (madeCells #[z] m) b)).setCell ⟨w.heap.size,j,none⟩ (.slice (some ⟨W.heap.size,0,none⟩) m m)) tr b n m j 0 (fun c=>if c=j then W.heap.size else l c) f z:=by
 have t:=h.lt;have p:=afu W z m b;refine⟨(h.ext.alloc _).setCell (acs _) _,((h.top.alloc _).set j _).congr (fun c _=>?_),fun c o=>?_,fun c o=>?_,fun c o=>?_,?_⟩
 ·grind
 ·show w.heap.size<if c=j then _ else _
  by_cases e:c=j
  ·grind
  rw[if_neg e];exact h.gt c (by omega)
 ·have q:(if c=j then W.heap.size else l c)=l c:=if_neg (by omega);have s:(if j=j then W.heap.size else l j)=W.heap.size:=if_pos rfl;show(if c=j then W.heap.size else l c)≠(if j=j then W.heap.size else l j);rw[q,s];have:=(h.done c o).lt;omega
 ·have q:(if c=j then W.heap.size else l c)=l c:=if_neg (by omega);show World.rowIs _ (if c=j then W.heap.size else l c) _ _ _;rw[q];exact((h.done c o).alloc _).setOther (by have:=h.gt c o;grind) _
 show World.rowIs _ (if j=j then W.heap.size else l j) _ _ _;rw[if_pos rfl];exact(p.setOther (by grind) _).congr (fun i _=>by simp)
theorem SE {tr:TypeId} {c:Nat} {v:Value} (h:U3 w W tr b n m j c l f e) (q:v=f j c):
  U3 w (W.setCell ⟨l j,c,none⟩ v) tr b n m j (c+1) l f e:=by
 subst q;have s:=h.gt j (by omega);refine⟨h.ext.setCell (by grind) _,h.top.setOther (by grind) _,h.gt,h.ne,fun o p=>(h.done o p).setOther (h.ne o p) _,(h.cur.set c _).congr (fun i _=>?_)⟩;grind
theorem U3.drew {tr:TypeId} {c:Nat} (h:U3 w W tr b n m j c l f e):U3 w W.drew tr b n m j c l f e:=
 ⟨h.ext.drew,h.top.drew,h.gt,h.ne,fun o p=>(h.done o p).drew,h.cur.drew⟩
theorem SD {tr:TypeId} {c:Nat} (h:U3 w W tr b n m j c l f e) (q:m<=c):X6 w W tr b n m (j+1) l f:=
 ⟨h.ext,h.top,h.gt,fun p t=>by
  by_cases o:p=j
  ·subst o;exact h.cur.congr (fun i s=>by grind)
  exact h.done p (by omega)⟩
def oS (n m:Nat) (Z:FF):List (List Int):=(List.range n).map fun i=>(List.range m).map fun j=>Z i j
theorem rI (n m:Nat) (Z:FF):(oS n m Z).length=n:=by simp[oS]
theorem Ov {i:Nat} (h:(oS n m r)[i]?=some c):i<n/\c=(List.range m).map fun j=>r i j:=by
 grind [oS]
theorem JI {i:Nat} (b:i<n) (c:j<m):((oS n m r).getD i []).getD j 0=r i j:=by
 grind [oS]
theorem X6.rd {tr:TypeId} {k:IntKind} (h:X6 w W tr b n m j l (fun i c=> .int k (r i c))) (t:n<=j) (s:m<=9223372036854775807):
  vy k W (some ⟨w.heap.size,0,none⟩) (oS n m r):=fun _=>by
 refine⟨w.heap.size,0,rfl,fun i q f=>?_⟩;obtain⟨o,rfl⟩:=Ov f;have e:((List.range m).map fun c=>r i c).length=m:=by simp
 refine⟨.slice (some ⟨l i,0,none⟩) m m,?_,some ⟨l i,0,none⟩,m,by rw[e],by omega,by omega,fun _=>⟨l i,0,rfl,fun c x u=>?_⟩⟩
 ·have:=h.top.cell o;grind
 have p:c<m:=by
  grind
 rw[acQ,(h.done i (by omega)).cell p];grind
section
section
variable {P:Program} (w:World)
theorem AQ (b:Nat) (t m e:TypeId) (i:TypeInfo) (size:Nat) (l:P.underlying t=some (.slice e)) (j:P.info? e=some i)
  (v:Value) (n:Nat) (o:List Value) (f:w.ownsRow b e size v n o) (c:Nat):(Builtin.append_ #[t,t] m #[v,.slice none 0 c]).run P w= .ok v w:=by
 rcases f.2 with⟨rfl,rfl⟩|⟨g,cap,cur,rfl,_,_,h,_⟩
 ·simp[Builtin.append_,run_underlying l,sizeOf,typeInfo,j,Builtin.lenOf,Builtin.firstCells]
 simp[Builtin.append_,run_underlying l,sizeOf,typeInfo,j,Builtin.lenOf,Builtin.firstCells,h,storeCells]
theorem mS (g:Nat) (t H e:TypeId) (z:Value) (size bytes:Nat) (L:P.underlying t=some (.slice e)) (p:(P.info? e).map (fun i=>(i.zero,i.size,i.bytes))=some (some z,size,bytes))
  (B:z.cells.size=size) (q:0<size)
  (v:Value) (n:Nat) (E:List Value) (o:w.ownsRow g e size v n E)
  (A:Option Addr) (m c:Nat) (f:List Value) (V:Rd w A f) (T:f.length=m*size) (O: ∀u∈f,u.oneCell'=true)
  (s:n+m<=maxLen) (h:(n+m)*bytes<=140737488355328) (l:g<=w.heap.size):
  ∃r D,(Builtin.append_ #[t,t] H #[v,.slice A m c]).run P w= .ok r D/\D.ownsRow g e size r (n+m) (E++f)/\w.grownBy D v.ownBlock/\(r.ownBlock=v.ownBlock\/r.ownBlock=some w.heap.size):=by
 obtain⟨i,J,C⟩:=acf.1 p;simp only[Prod.mk.injEq]at C;obtain⟨M,K,I⟩:=C;by_cases x:f=[]
 ·subst x;have U:m=0:=by
   rcases Nat.eq_zero_or_pos m with F|F
   ·exact F
   have:=afX F q;grind
  subst U;rcases A with _|N
  ·grind [AQ,World.grownBy.refl]
  obtain⟨r,D,y,Q,R,_,S⟩:=run_append_own_at (P:=P) w g t H e i z size bytes L J M K I B q v n E o N 0 c [] (by simp) (by simp) (by simp) s h l;grind
 obtain⟨b,G,rfl,W⟩:=V x;obtain⟨r,D,y,Q,R,_,S⟩:=run_append_own_at (P:=P) w g t H e i z size bytes L J M K I B q v n E o ⟨b,G,none⟩ m c f T (fun j u X=>by
  grind [Addr.add]) O s h l
 grind
theorem j8 {B:Array Oper} {j:List Oper} {o:Oper} {a:Act} {Q:Exit->Act->World->Prop} (E:o.guard=none) (s x:Operand) (t:TypeId)
  (R:o.op= .call {callee:= .builtin .append,args:= #[s,x],argTypes:= #[t,t]})
  (f:Nat) (e:TypeId) (z:Value) (size bytes:Nat) (U:P.underlying t=some (.slice e)) (p:(P.info? e).map (fun i=>(i.zero,i.size,i.bytes))=some (some z,size,bytes))
  (G:z.cells.size=size) (F:0<size)
  (v:Value) (n:Nat) (H:List Value) (T:a.eval s=v) (r:w.ownsRow f e size v n H)
  (A:Option Addr) (m c:Nat) (b:List Value) (V:a.eval x= .slice A m c) (S:Rd w A b) (O:b.length=m*size) (I: ∀u∈b,u.oneCell'=true)
  (D:n+m<=maxLen) (g:(n+m)*bytes<=140737488355328) (l:f<=w.heap.size)
  (h: ∀q C,C.ownsRow f e size q (n+m) (H++b)->w.grownBy C v.ownBlock->(q.ownBlock=v.ownBlock\/q.ownBlock=some w.heap.size)->wpList P B Q j (a.put o.dst q) C):wpList P B Q (o::j) a w:=by
 refine wpList_plain E fun K N=>?_
 obtain⟨q,C,y,J,L,M⟩:=mS (P:=P) w f t o.type e z size bytes U p G F v n H r A m c b S O I D g l;unfold Oper.wp execOp;simp only[R,resolve,invoke,builtin,acv,adl,acj,afr,acA,acT,T,V,y];exact N _ _ (h q C J L M)
end
theorem ux {k:IntKind}: ∀u∈c.map (Value.int k),u.oneCell'=true:=by
 intro u b;obtain⟨z,_,rfl⟩:=acn.1 b;rfl
theorem OV (c:w.ownsRow n b 1 e m h) (y:0<m):
  ∃g cap f,e= .slice (some ⟨g,0,none⟩) m cap/\m<=cap/\n<=g/\w.rowIs g b cap f/\ ∀i x,h[i]?=some x->f i=x:=by
 obtain⟨t,o⟩:=c;rcases o with⟨l,r⟩|⟨g,cap,cur,l,p,q,j,u,z,A⟩
 ·omega
 refine⟨g,cap,fun i=>cur[i]?.getD undef,l,j,p,⟨cur,q,by omega,fun i s=>?_⟩,fun i x B=>?_⟩
 ·grind
 grind
theorem Hb {size:Nat} (c:w.ownsRow n b size e m h) (k:Ext w W):W.ownsRow n b size e m h:=by
 obtain⟨p,j⟩:=c;refine⟨p,?_⟩;rcases j with j|⟨g,cap,cur,q,l,o,r⟩
 ·grind
 refine .inr ⟨g,cap,cur,q,l,?_,r⟩;have f:g<w.heap.size:=by
  grind
 rw[k.block g f];exact o
theorem CA {f:World} {size:Nat} (g:w.grownBy f e.ownBlock) (l:w.ownsRow n b size e m h) (c:Ext W w) (o:W.heap.size<=n):Ext W f:=
 c.grown g (fun k j=>by have:=(l.lt k j).1;omega)
theorem Au (c:w.ownsRow n b 2 e m h) (y:0<m):
  ∃g cap f,e= .slice (some ⟨g,0,none⟩) m cap/\m<=cap/\cap<=maxLen/\n<=g/\w.rowIs g b (cap*2) f/\ ∀i x,h[i]?=some x->f i=x:=by
 obtain⟨u,o⟩:=c;rcases o with⟨l,s⟩|⟨g,cap,cur,l,p,q,j,r,z,A⟩
 ·omega
 refine⟨g,cap,fun i=>cur[i]?.getD undef,l,j,r,p,⟨cur,q,by omega,fun i t=>?_⟩,fun i x B=>?_⟩
 ·grind
 grind
end
def eE (r:Nat->Int):(List Nat->Int)->List Nat->Int
 |_,[]=>0
 |f,c::b=>r c*f b-eE r (fun l=>f (c::l)) b
theorem Mn (a b:Int) (r s:Nat->Int): ∀(e:List Nat) (f:List Nat->Int),eE (fun c=>a*r c+b*s c) f e=a*eE r f e+b*eE s f e
 |[],f=>by simp[eE]
 |c::e,f=>by
  simp only[eE,Mn a b r s e];grind
theorem zZ (r:Nat->Int) (a b:Int): ∀(e:List Nat) (f g:List Nat->Int),eE r (fun l=>a*f l+b*g l) e=a*eE r f e+b*eE r g e
 |[],f,g=>by simp[eE]
 |c::e,f,g=>by
  simp only[eE,zZ r a b e];grind
theorem GL (r:Nat->Int): ∀(b:List Nat),eE r (fun _=>0) b=0
 |[]=>rfl
 |c::b=>by simp[eE,GL r b]
theorem zY (r s:Nat->Int): ∀(b:List Nat) (f:List Nat->Int),eE r (eE s f) b= - eE s (eE r f) b
 |[],f=>by simp[eE]
 |c::b,f=>by
  have e:(fun l=>eE s f (c::l))=fun l=>s c*f l+(-1)*eE s (fun m=>f (c::m)) l:=by grind [eE]
  have g:(fun l=>eE r f (c::l))=fun l=>r c*f l+(-1)*eE r (fun m=>f (c::m)) l:=by grind [eE]
  have h:=zY r s b (fun m=>f (c::m));rw[eE,eE,e,g,zZ,zZ];omega
theorem Z5 (r:Nat->Int) (b:List Nat) (f:List Nat->Int):eE r (eE r f) b=0:=by
 grind [zY]
theorem um {r:Nat->Int}: ∀(b:List Nat) (f:List Nat->Int),(∀c∈b,r c=0)->eE r f b=0
 |[],_,_=>rfl
 |c::b,f,h=>by
  rw[eE,um b _ (fun c e=>h c (ac6 _ e)),h c adf];simp
def om (R:FF):Nat->List Nat->Int
 |0=>fun _=>1
 |k+1=>eE (R k) (om R k)
def ry:Nat->List Nat
 |0=>[]
 |k+1=>k::ry k
theorem lX {k:Nat} (h:n∈ry k):n<k:=by
 induction k with
 |zero=>simp[ry]at h
 |succ k b=>
  rcases acR.1 h with rfl|h
  ·omega
  grind
def bk (R:FF) (k i j:Nat):Int:=eE (R i) (om R k) (j::ry k)
def dk (R:FF) (k:Nat):Int:=om R k (ry k)
theorem ce (R:FF):dk R 0=1:=rfl
theorem ca (R:FF) (k:Nat):dk R (k+1)=bk R k k k:=rfl
theorem cH (R:FF) (i j:Nat):bk R 0 i j=R i j:=by simp[bk,eE,om,ry]
theorem ME (R:FF) {k:Nat} (h:n<k) (b:List Nat):eE (R n) (om R k) b=0:=by
 induction k generalizing b with
 |zero=>omega
 |succ k c=>
  by_cases e:n=k
  ·subst e;exact Z5 _ _ _
  rw[om,zY,show eE (R n) (om R k)=fun _=>0 from funext (c (by omega)),GL];rfl
theorem ot (R:FF) {k:Nat} (h:n<k) (j:Nat):bk R k n j=0:=ME R h _
theorem elim (R:FF): ∀k,(∀t,t<k->dk R (t+1)≠0)-> ∃N:Int,N≠0/\ ∀v:Nat->Int,∃b:Nat->Int,(∀c,c<k->b c=0)/\
  ∀m,k<=m-> ∀e,eE b (om R m) e=N*eE v (om R m) e
 |0,_=>⟨1,by omega,fun v=>⟨v,fun c h=>by omega,fun m _ e=>by omega⟩⟩
 |k+1,n=>by
  obtain⟨N,l,j⟩:=elim R k (fun t x=>n t (by omega));obtain⟨r,p,o⟩:=j (R k);have q:r k*dk R k=N*dk R (k+1):=by
   grind [eE,um,lX,ca,bk,dk]
  have f:r k≠0:=by
   grind [Int.mul_eq_zero]
  refine⟨r k*N,agf f l,fun v=>?_⟩;obtain⟨b,s,g⟩:=j v;refine⟨fun c=>r k*b c+(- b k)*r c,fun c u=>?_,fun m w e=>?_⟩
  ·grind
  rw[Mn,g m (by omega),o m (by omega),ME R (show k<m by omega)];grind
theorem sylv (R:FF) (k:Nat) (z: ∀t,t<k->dk R (t+1)≠0) (i j:Nat):
  dk R k*bk R (k+1) i j=dk R (k+1)*bk R k i j-bk R k i k*bk R k k j:=by
 obtain⟨N,p,q⟩:=elim R k z;obtain⟨v,e,hv1⟩:=q (R i);obtain⟨u,hu0,hu1⟩:=q (R k);have b: ∀{x:Nat->Int} {t:Nat},(∀c,c<k->x c=0)->(∀m,k<=m-> ∀o,eE x (om R m) o=N*eE (R t) (om R m) o)-> ∀j,N*bk R k t j=x j*dk R k:=by
  grind [bk,eE,um,lX,dk]
 have C:=b e hv1;have D:=b hu0 hu1;have s:eE v (eE u (om R k)) (j::k::ry k)=N*N*bk R (k+1) i j:=by
  have r:eE u (om R k)=fun l=>N*eE (R k) (om R k) l+0*0:=by grind
  have A:eE v (eE u (om R k)) (j::k::ry k)=N*eE v (om R (k+1)) (j::k::ry k):=by
   rw[r];have:=zZ v N 0 (j::k::ry k) (eE (R k) (om R k)) (fun _=>0);grind [om]
  grind [bk,ry]
 have w:eE v (eE u (om R k)) (j::k::ry k)=(v j*u k-v k*u j)*dk R k:=by
  have g: ∀{x:Nat->Int} (f:List Nat->Int),(∀c,c<k->x c=0)->eE x f (ry k)=0:=fun f h=>um (ry k) f (fun c y=>h c (lX y))
  simp only[eE,g _ e,g _ hu0,dk];grind
 have B:=s.symm.trans w;have n:N*N≠0:=agf p p;apply ad5 n;grind [ca]
def vD (x:List Int):Bool:=x.all fun c=>decide (-1099511627776<=c)&&decide (c<=1099511627776)
theorem qA {k:Nat} (h:c[k]?=some x) (b:x< -1099511627776\/1099511627776<x):vD c=false:=by
 unfold vD;rw[List.all_eq_false];exact⟨x,acd h,by simp;omega⟩
theorem yA {k:Nat} (g:c.length<=k) (h: ∀j b,j<k->c[j]?=some b-> -1099511627776<=b/\b<=1099511627776):vD c=true:=by
 unfold vD;rw[acr];intro b e;obtain⟨j,f,rfl⟩:=adA e;have:=h j _ (by omega) (acy f);simp;omega
theorem wL {f:Type} {x:List f} {k:Nat} {P:f->Prop} {c:f} (h: ∀j c,j<k->x[j]?=some c->P c) (l:x[k]?=some c) (g:P c): ∀j c,j<k+1->x[j]?=some c->P c:=by
 intro j d m b;by_cases e:j=k
 ·subst e;rw[l]at b;cases b;exact g
 exact h j d (by omega) b
theorem mt (A:Option Addr) (c:Nat) (x:List Int) (w:World) (hx:RdI .i64 w A x) (lx:x.length<=9223372036854775807):
  Calls prog 163 #[.slice A x.length c] w fun e w'=>e= .returned (.bool (vD x))/\w=w':=by
 have HX:=acg hx;clear hx
 go_enter func163,ntmps163
 go_wp2_with fail
 go_loop [7,4] (fun i _=> ∃k:Nat,k<=x.length/\i= .int .i64 k/\Hid (∀j c,j<k->x[j]?=some c-> -1099511627776<=c/\c<=1099511627776)) (fun i _=>x.length-(intOf i).toNat)
 case atStart=>grind [Lib.hid]
 case round=>
  obtain⟨k,hk,rfl,HR⟩:=hrel;by_cases hlt:k<x.length
  ·obtain⟨a,ha⟩:=getElem?_of_lt hlt;obtain⟨b,off,rfl,hc⟩:=HX.out.at_ ha;have HA:=acg ha;clear ha;by_cases h1:a< -1099511627776
   ·go_wp2_with fail
    go_ret
    exact⟨jz (qA HA.out (.inl h1)).symm,rfl⟩
   by_cases h2:1099511627776<a
   ·go_wp2_with fail
    go_ret
    exact⟨jz (qA HA.out (.inr h2)).symm,rfl⟩
   go_wp2_with fail
   go_round
   case rel=>exact⟨k+1,by omega,by go_num,acg (wL (P:=fun c=> -1099511627776<=c/\c<=1099511627776) HR.out HA.out (by omega))⟩
   grind [intOf]
  go_wp2_with fail
  go_ret
  exact⟨jz (yA (by omega) HR.out).symm,rfl⟩
def By (n:Int) (x:List Int):Bool:=decide ((x.length:Int)=n)&&vD x
theorem Gz (n:Int) (A:Option Addr) (c:Nat) (x:List Int) (w:World) (hx:RdI .i64 w A x) (lx:x.length<=9223372036854775807):
  Calls prog 116 #[.int .i64 n,.slice A x.length c] w fun e w'=>e= .returned (.bool (By n x))/\w=w':=by
 by_cases h:(x.length:Int)=n
 ·have hB:((x.length:Int)==n)=true:=by simp[h]
  go_enter func116,ntmps116
  have HH:=acg h;clear h
  go_wp2_with (go_at_call 163;refine(mt A c x _ hx lx).mono ?_;rintro e w' ⟨rfl,rfl⟩)
  go_ret
  exact⟨jz (by grind [By]),rfl⟩
 have hB:((x.length:Int)==n)=false:=by simp[h]
 go_enter func116,ntmps116
 go_wp2_with fail
 go_ret
 exact⟨jz (by simp[By,h]),rfl⟩
def ent (b:List (List Int)) (i j:Nat):Int:=(b.getD i []).getD j 0
theorem sk {i:Nat} {a:Int} (h:o[i]?=some c) (b:c[n]?=some a):ent o i n=a:=by
 grind [ent]
def mK (b:List (List Int)) (i j:Nat):Prop:=ent b i j=ent b j i/\ -262144<ent b i j/\ent b i j<262144
def kR (b:List (List Int)):Prop:=
 1<=b.length/\b.length<=8/\(∀i,i<b.length->(b.getD i []).length=b.length)/\ ∀i,i<b.length-> ∀j,j<b.length->mK b i j
instance (rows:List (List Int)) (i j:Nat):Decidable (mK rows i j):=inferInstanceAs (Decidable (_/\_))
instance (rows:List (List Int)):Decidable (kR rows):=inferInstanceAs (Decidable (_/\_/\_/\_))
theorem EH {p:Prop} [Decidable p] (h:p):Ending.returned (.bool true)= .returned (.bool (decide p)):=by simp[h]
theorem eJ {p:Prop} [Decidable p] (h: ¬p):Ending.returned (.bool false)= .returned (.bool (decide p)):=by simp[h]
theorem xb (A:Option Addr) (c:Nat) (rows:List (List Int)) (w:World) (hx:vy .i64 w A rows) (lx:rows.length<=9223372036854775807):
  Calls prog 85 #[.slice A rows.length c] w fun e w'=>e= .returned (.bool (decide (kR rows)))/\w=w':=by
 have HX:=acg hx;clear hx
 go_enter func85,ntmps85
 by_cases hn1:rows.length<1
 ·go_wp2_with fail
  go_ret
  exact⟨eJ (fun h=>by have:=h.1;omega),rfl⟩
 by_cases hn8:8<rows.length
 ·go_wp2_with fail
  go_ret
  exact⟨eJ (fun h=>by have:=h.2.1;omega),rfl⟩
 go_wp2_with fail
 go_loop [20,5] (fun i _=> ∃k:Nat,k<=rows.length/\i= .int .i64 k/\Hid (∀i,i<k->(rows.getD i []).length=rows.length)) (fun i _=>rows.length-(intOf i).toNat)
 case atStart=>grind [Lib.hid]
 case round=>
  obtain⟨k,hk,rfl,HR⟩:=hrel;by_cases hlt:k<rows.length
  ·obtain⟨r,ha⟩:=getElem?_of_lt hlt;obtain⟨b,off,B,cr,rfl,hc,hcr,hlr,hr⟩:=HX.out.at_ ha;have HA:=acg ha;clear ha hr;by_cases h1:r.length=rows.length
   ·have h1':((r.length:Int) !=(rows.length:Int))=false:=by simp[h1]
    have H1:=acg h1;clear h1
    go_wp2_with fail
    go_round
    case rel=>
     exact⟨k+1,by omega,by go_num,acg (fun i hi=>by
      by_cases e:i=k
      ·subst e;rw[acm,HA.out];exact H1.out
      exact HR.out i (by omega))⟩
    grind [intOf]
   have h1':((r.length:Int) !=(rows.length:Int))=true:=by simp;omega
   go_wp2_with fail
   go_ret
   exact⟨eJ (fun h=>by have:=h.2.2.1 k hlt;rw[acm,HA.out]at this;grind),rfl⟩
  have HL:Hid (∀i,i<rows.length->(rows.getD i []).length=rows.length):=acg (fun i hi=>HR.out i (by omega));clear HR
  go_wp2_with fail
  go_loop [31,6,7,8,9] (fun i _ _ _ _=> ∃k:Nat,k<=rows.length/\i= .int .i64 k/\Hid (∀i,i<k-> ∀j,j<rows.length->mK rows i j)) (fun i _ _ _ _=>rows.length-(intOf i).toNat)
  case atStart=>grind [Lib.hid]
  case round=>
   obtain⟨k,hk,rfl,HR⟩:=hrel;by_cases hlt:k<rows.length
   ·obtain⟨r,ha⟩:=getElem?_of_lt hlt;obtain⟨b,off,B,cr,rfl,hc,hcr,hlr,hr⟩:=HX.out.at_ ha;have hrl:r.length=rows.length:=by have:=HL.out k hlt;grind
    have HA:=acg ha;have HRR:=acg hr;have HRL:=acg hrl;clear ha hr hrl
    go_wp2_with fail
    go_loop [38,8,9] (fun i _ _=> ∃l:Nat,l<=rows.length/\i= .int .i64 l/\Hid (∀j,j<l->mK rows k j)) (fun i _ _=>rows.length-(intOf i).toNat)
    case atStart=>exact⟨0,acL _,rfl,acg (fun j h=>by omega)⟩
    case round=>
     obtain⟨l,hl,rfl,HQ⟩:=hrel;by_cases hll:l<rows.length
     ·obtain⟨a,ha⟩:=getElem?_of_lt (l:=r) (k:=l) (by rw[HRL.out];exact hll);obtain⟨b2,off2,rfl,hc2⟩:=HRR.out.at_ ha;have HA2:=acg ha;clear ha;obtain⟨r3,ha3⟩:=getElem?_of_lt hll;obtain⟨b3,off3,B3,cr3,h33,hc3,hcr3,hlr3,hr3⟩:=HX.out.at_ ha3;cases h33;have hrl3:r3.length=rows.length:=by have:=HL.out l hll;simp_all
      obtain⟨a4,ha4⟩:=getElem?_of_lt (l:=r3) (k:=k) (by omega);obtain⟨b4,off4,rfl,hc4⟩:=hr3.at_ ha4;have hlr4:k<r3.length:=by omega
      have hlr5:l<r.length:=by rw[HRL.out];exact hll
      have HA3:=acg ha3;have HA4:=acg ha4;have E1:=acg (sk HA.out HA2.out);have E2:=acg (sk HA3.out HA4.out);clear ha3 hr3 hrl3 ha4;by_cases g1:a=a4
      ·have g1':(a !=a4)=false:=by simp[g1]
       have G1:=acg g1;clear g1;by_cases g2:a<= -262144
       ·go_wp2_with fail
        go_ret
        exact⟨eJ (fun h=>by have:=h.2.2.2 k hlt l hll;unfold mK at this;rw[E1.out]at this;omega),rfl⟩
       by_cases g3:262144<=a
       ·go_wp2_with fail
        go_ret
        exact⟨eJ (fun h=>by have:=h.2.2.2 k hlt l hll;unfold mK at this;rw[E1.out]at this;omega),rfl⟩
       go_wp2_with fail
       go_round
       case rel=>
        exact⟨l+1,by omega,by go_num,acg (fun j hj=>by
         by_cases e:j=l
         ·subst e;unfold mK;rw[E1.out,E2.out,<- G1.out];omega
         exact HQ.out j (by omega))⟩
       case measure=>simp[intOf];omega
      have g1':(a !=a4)=true:=by simp[g1]
      go_wp2_with fail
      go_ret
      exact⟨eJ (fun h=>by have:=h.2.2.2 k hlt l hll;unfold mK at this;rw[E1.out,E2.out]at this;omega),rfl⟩
     have hd:((l:Int)<(r.length:Int))=False:=by rw[HRL.out];simp;omega
     have hle:r.length<=l:=by simp_all
     clear hd
     go_wp2_with fail
     go_round
     case rel=>
      exact⟨k+1,by omega,by go_num,acg (fun i hi j hj=>by
       by_cases e:i=k
       ·subst e;exact HQ.out j (by omega)
       exact HR.out i (by omega) j hj)⟩
     case measure=>simp[intOf];omega
   go_wp2_with fail
   go_ret
   exact⟨EH ⟨by omega,by omega,HL.out,fun i hi j hj=>HR.out i (by omega) j hj⟩,rfl⟩
def rP (b:List (List Int)) (i:Nat):Prop:=wrap64 (2*ent b i 0)<=ent b 0 0/\wrap64 (-2*ent b i 0)<=ent b 0 0
def nZ (b:List (List Int)):Prop:=
 0<ent b 0 0/\ent b 0 0<65536/\ ∀i,i<b.length->1<=i->rP b i
instance (rows:List (List Int)) (i:Nat):Decidable (rP rows i):=inferInstanceAs (Decidable (_/\_))
instance (rows:List (List Int)):Decidable (nZ rows):=inferInstanceAs (Decidable (_/\_/\_))
theorem pq (A:Option Addr) (c:Nat) (rows:List (List Int)) (w:World) (hx:vy .i64 w A rows) (lx:rows.length<=9223372036854775807) (hcap:rows.length<=c)
  (hn:2<=rows.length) (hne: ∀i,i<rows.length->1<=(rows.getD i []).length):
  Calls prog 86 #[.slice A rows.length c] w fun e w'=>e= .returned (.bool (decide (nZ rows)))/\w=w':=by
 have HX:=acg hx;have HNE:=acg hne;clear hx hne;obtain⟨r,ha⟩:=getElem?_of_lt (l:=rows) (k:=0) (by omega);obtain⟨b,off,B,cr,rfl,hc,hcr,hlr,hr⟩:=HX.out.at_ ha;have hrl:1<=r.length:=by have:=HNE.out 0 (by omega);grind
 obtain⟨d,hd⟩:=getElem?_of_lt (l:=r) (k:=0) hrl;obtain⟨b2,off2,rfl,hc2⟩:=hr.at_ hd;have E0:=acg (sk ha hd);clear ha hd hr;rw[ac9]at hc hc2
 go_enter func86,ntmps86
 by_cases g1:d<=0
 ·go_wp2_with fail
  go_ret
  exact⟨eJ (fun h=>by have:=h.1;rw[E0.out]at this;omega),rfl⟩
 by_cases g2:65536<=d
 ·go_wp2_with fail
  go_ret
  exact⟨eJ (fun h=>by have:=h.2.1;rw[E0.out]at this;omega),rfl⟩
 go_wp2_with fail
 go_loop [20,5] (fun i _=> ∃k:Nat,k<=rows.length-1/\i= .int .i64 k/\Hid (∀i,i<k+1->1<=i->rP rows i)) (fun i _=>rows.length-(intOf i).toNat)
 case atStart=>grind [Lib.hid]
 case round=>
  obtain⟨k,hk,rfl,HR⟩:=hrel;by_cases hlt:k<rows.length-1
  ·obtain⟨r3,ha3⟩:=getElem?_of_lt (l:=rows) (k:=k+1) (by omega);obtain⟨b3,off3,B3,cr3,h33,hc3,hcr3,hlr3,hr3⟩:=HX.out.at_ ha3;cases h33;rw[show off+(k+1)=off+1+k from by omega]at hc3;have hrl3:1<=r3.length:=by have:=HNE.out (k+1) (by omega);grind
   obtain⟨a,ha⟩:=getElem?_of_lt (l:=r3) (k:=0) hrl3;obtain⟨b4,off4,rfl,hc4⟩:=hr3.at_ ha;rw[ac9]at hc4;have E1:=acg (sk ha3 ha);clear ha3 hr3 ha;by_cases g3:d<wrap64 (2*a)
   ·go_wp2_with fail
    go_ret
    exact⟨eJ (fun h=>by have:=h.2.2 (k+1) (by omega) (by omega);unfold rP at this;rw[E0.out,E1.out]at this;omega),rfl⟩
   by_cases g4:d<wrap64 (-2*a)
   ·go_wp2_with fail
    go_ret
    exact⟨eJ (fun h=>by have:=h.2.2 (k+1) (by omega) (by omega);unfold rP at this;rw[E0.out,E1.out]at this;omega),rfl⟩
   go_wp2_with fail
   go_round
   case rel=>
    exact⟨k+1,by omega,by go_num,acg (fun i hi hi'=>by
     by_cases e:i=k+1
     ·subst e;unfold rP;rw[E0.out,E1.out];omega
     exact HR.out i (by omega) hi')⟩
   grind [intOf]
  go_wp2_with fail
  go_ret
  exact⟨EH ⟨by rw[E0.out];omega,by rw[E0.out];omega,fun i hi hi'=>HR.out i (by omega) hi'⟩,rfl⟩
end Go.Proofs.YtalmoejhjceflaaGreat
