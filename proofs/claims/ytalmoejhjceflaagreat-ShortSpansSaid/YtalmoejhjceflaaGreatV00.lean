/-
  Part 1 of a proof (walks and plain facts).
-/
import Derived.Test.YtalmoejhjceflaaGreatRows
import Derived.WalkKit
import Derived.WalkSpells
import Derived.WalkLawsBesides
import Derived.Deep.QuietTactic
import Derived.BigQuiet
import Derived.Lib.Hide
import Derived.Deep.Draws
import Derived.Deep.AppendLies
import Derived.Laws.OwnMore
import Derived.ProofKit
import Derived.OpenShut
import Derived.ShutString
import Derived.ChangeOld
import Derived.Below
import Derived.SizedLaws
import Derived.Deep.OwnRows
import Derived.Deep.LoopGhost
import Derived.Deep.Light
import Derived.Deep.Cut
import Derived.Deep.CutRange
import Derived.CellFam
import Derived.BigGuard
import Derived.BigRegion
import Derived.Maps.AppendAt
import Derived.RegionTactic
import Derived.OwnWalk
set_option linter.all false
set_option maxRecDepth 100000
set_option maxHeartbeats 64000000
namespace Go.Proofs.YtalmoejhjceflaaGreat
open Go.RowKit Go.Proofs.Tryz
def adv:=@And.intro
def adQ:=@List.mem_of_getElem?.{0}
def adT:=@Option.map_eq_some_iff.{0,0}
def aeG:=@List.getElem?_map.{0,0}
def aeH:=@Result.andThen_ok
def aeI:=@List.getElem?_eq_some_iff.{0}
def aeJ:=@Nat.le_refl
def aeK:=@List.mem_singleton.{0}
def aeL:=@List.mem_map.{0,0}
def aeM:=@List.getD_eq_getElem?_getD.{0}
def aeN:=@Nat.le_trans
def aeO:=@Int.mul_le_mul_of_nonneg_left
def aeP:=@List.all_eq_true.{0}
def aeQ:=@Int.mul_nonneg
def aeR:=@List.getElem?_eq_getElem.{0}
def aeS:=@List.take_of_length_le.{0}
def aeT:=@Nat.lt_of_lt_of_le
def aeU:=@Sem.run_bind
def aeV:=@Lib.hid
def aeW:=@List.ext_getElem?.{0}
def aeX:=@List.map_cons.{0,0}
def aeY:=@Int.mul_le_mul_of_nonneg_right
def aeZ:=@Option.bind_eq_some_iff.{0,0}
def ae0:=@Int.mul_le_mul
def ae1:=@List.map_congr_left.{0,0}
def ae2:=@Nat.mul_le_mul_right
def ae3:=@List.length_map.{0,0}
def ae4:=@Array.getElem?_eq_some_iff.{0}
def ae5:=@Nat.pow_le_pow_right
def ae6:=@List.length_cons.{0}
def ae7:=@Nat.mul_le_mul_left
def ae8:=@List.append_assoc.{0}
def ae9:=@Int.mul_nonneg_of_nonpos_of_nonpos
def afa:=@Int.mul_pos
def afb:=@Bool.and_eq_true
def afc:=@List.length_replicate.{0}
def afd:=@Nat.mul_le_mul
def afe:=@Int.le_of_mul_le_mul_left
def aff:=@List.getElem?_append_left.{0}
def afg:=@List.length_append.{0}
def afh:=@List.map_nil.{0,0}
def afi:=@List.range_eq_range'
def afj:=@List.range'_succ
def afk:=@List.range'_append_1
def afl:=@Nat.zero_le
def afm:=@Nat.zero_add
def afn:=@List.mem_cons.{0}
def afo:=@List.mem_iff_getElem?.{0}
def afp:=@Nat.mod_lt
def afq:=@Bool.false_eq_true
def afr:=@Int.natAbs_mul
def afs:=@List.getElem?_append_right.{0}
def afu:=@List.getElem?_set_self.{0}
def afv:=@List.map_append.{0,0}
def afw:=@Int.eq_ofNat_of_zero_le
def afx:=@List.not_mem_nil.{0}
def afy:=@List.mem_cons_of_mem.{0}
def afz:=@List.append_nil.{0}
def afA:=@Int.le_of_lt
def afB:=@List.getElem?_set_ne.{0}
def afC:=@Sem.run_pure
def afD:=@List.mem_append.{0}
def afE:=@List.mem_range
def afF:=@Int.le_total
def afG:=@List.getElem?_set.{0}
def afH:=@List.range_succ
def afI:=@List.getElem?_eq_none.{0}
def afJ:=@Classical.byContradiction
def afK:=@IntKind.wrap_u64
def afL:=@Int.lt_or_le
def afM:=@List.mem_cons_self.{0}
def afN:=@Option.isNone_none.{0}
def afO:=@Nat.sub_self
def afP:=@List.length_nil.{0}
def afQ:=@List.nil_append.{0}
def afR:=@Int.le_of_not_gt
def afS:=@List.take_length.{0}
def afT:=@List.size_toArray.{0}
def afU:=@List.nodup_cons.{0}
def afV:=@Option.map_some.{0,0}
def afW:=@List.getElem_of_mem.{0}
def afX:=@Nat.pow_le_pow_left
def afY:=@Int.le_refl
def afZ:=@Nat.pow_lt_pow_right
def af0:=@Int.mul_comm
def af1:=@Int.mul_zero
def af2:=@Nat.le_of_not_lt
def af3:=@Nat.pow_succ
def af4:=@Int.eq_of_mul_eq_mul_left
def af5:=@List.mem_or_eq_of_mem_set.{0}
def af6:=@List.take_succ_cons.{0}
def af7:=@Nat.lt_trichotomy
def af8:=@Nat.pow_add
def af9:=@Int.ediv_nonneg
def aga:=@List.map_map.{0,0,0}
def agb:=@List.all_replicate.{0}
def agc:=@List.pairwise_cons.{0}
def agd:=@Nat.lt_of_le_of_lt
def age:=@List.length_take.{0}
def agf:=@List.mem_of_mem_take.{0}
def agh:=@Nat.le_mul_of_pos_right
def agi:=@Array.getD_eq_getD_getElem?.{0}
def agj:=@Nat.mul_assoc
def agk:=@Int.tdiv_eq_ediv_of_nonneg
def agl:=@List.range_succ_eq_map
def agm:=@List.take_succ_eq_append_getElem.{0}
def agn:=@Nat.add_comm
def ago:=@Nat.add_zero
def agp:=@List.drop_succ_cons.{0}
def agq:=@List.drop_eq_getElem_cons.{0}
def agr:=@List.cons_append.{0}
def ags:=@List.drop_length.{0}
def agt:=@List.zipIdx_cons.{0}
def agu:=@Option.getD_some.{0}
def agv:=@Ne.symm.{1}
def agw:=@Int.natAbs_neg
def agx:=@List.drop_zero.{0}
def agy:=@List.eq_nil_of_length_eq_zero.{0}
def agz:=@List.map_id.{0}
def agA:=@List.mem_of_mem_drop.{0}
def agB:=@Nat.pow_pos
def agC:=@List.getElem?_replicate.{0}
def agD:=@List.length_eq_zero_iff.{0}
def agE:=@Int.lt_ediv_add_one_mul_self
def agF:=@Int.mul_ne_zero
def agG:=@List.replicate_succ.{0}
def agH:=@Int.le_ediv_iff_mul_le
def agI:=@List.drop_of_length_le.{0}
def agJ:=@List.flatMap_nil.{0,0}
def agK:=@Int.mul_nonpos_of_nonneg_of_nonpos
def agL:=@List.getElem?_drop.{0}
def agM:=@List.mem_replicate.{0}
def agN:=@Classical.choose_spec.{1}
def agO:=@List.ne_nil_of_length_pos.{0}
def agP:=@List.pairwise_iff_getElem.{0}
def agQ:=@List.flatMap_cons.{0,0}
def agR:=@List.length_range
def agS:=@List.replicate_succ'.{0}
def agT:=@Nat.lt_or_ge
def agU:=@Array.getElem?_setIfInBounds_ne.{0}
def agV:=@Function.comp_apply.{1,1,1}
def agW:=@List.getElem?_cons_succ.{0}
def agX:=@List.take_zero.{0}
def agY:=@OpenClaim.holds_of_wide
def agZ:=@Option.bind_some.{0,0}
def ag0:=@Int.one_mul
def ag1:=@Int.emod_lt_of_pos
def ag2:=@Int.zero_mul
def ag3:=@List.getElem?_take.{0}
def ag4:=@List.set_cons_succ.{0}
def ag5:=@List.set_cons_zero.{0}
def ag6:=@Nat.le_mul_of_pos_left
def ag7:=@Bool.or_eq_true
def ag8:=@List.zipIdx_nil.{0}
def ag9:=@Nat.div_le_self
def aha:=@Option.map_none.{0,0}
def ahb:=@Int.mul_assoc
def ahc:=@Nat.add_assoc
def ahd:=@List.length_singleton.{0}
def ahe:=@List.set_append_right.{0}
def ahf:=@List.takeWhile_cons_of_pos.{0}
def ahg:=@Addr.add_lit
def ahh:=@Int.ediv_le_self
def ahi:=@IntKind.wrap_u32
def ahj:=@List.mem_flatMap.{0,0}
def ahk:=@Nat.mod_eq_of_lt
def ahl:=@Nat.mul_comm
def ahm:=@ChangeSpec.witness6
def ahn:=@Int.mul_tdiv_cancel_left
def aho:=@Int.emod_nonneg
def ahp:=@Int.lt_tmod_of_pos
def ahq:=@Int.tmod_lt_of_pos
def ahr:=@Nat.add_mul
def ahs:=@Int.ofNat_tmod
def aht:=@IntWalk.i64_in
def ahu:=@List.filter_congr.{0}
def ahv:=@List.filter_eq_nil_iff.{0}
def ahw:=@Nat.mul_left_comm
def ahx:=@Nat.mul_mod_mul_right
def ahy:=@List.eq_nil_iff_forall_not_mem.{0}
def ahz:=@List.map_toArray.{0,0}
def ahA:=@Nat.lt_succ_self
def ahB:=@Nat.mul_lt_mul''
def ahC:=@Int.ediv_emod_unique
def ahD:=@List.mem_append_left.{0}
def ahE:=@Nat.div_lt_of_lt_mul
def ahF:=@Int.mul_ediv_mul_of_pos_left
def ahG:=@List.mem_filter.{0}
def ahH:=@Nat.le_add_left
def ahI:=@Nat.min_eq_left
def ahJ:=@Nat.testBit_two_pow_sub_succ
def ahK:=@Nat.testBit_two_pow
def ahL:=@Int.zero_add
def ahM:=@Int.zero_sub
def ahN:=@Nat.le_of_lt
def ahO:=@Nat.zero_mul
def ahP:=@Array.getElem?_append_left.{0}
def ahQ:=@Below.heap_setCell
def ahR:=@List.append_of_mem.{0}
def ahS:=@List.mem_filterMap.{0,0}
def ahT:=@Nat.mul_div_cancel
def ahU:=@Int.lt_of_mul_lt_mul_left
def ahV:=@Int.natAbs_ediv_le_natAbs
def ahW:=@List.mem_of_find?_eq_some.{0}
def ahX:=@Nat.le_of_mul_le_mul_left
def ahY:=@Int.natAbs_add_le
def ahZ:=@Int.neg_mul
def ah0:=@List.isEmpty_cons.{0}
def ah1:=@List.take_add_one.{0}
def ah2:=@Nat.or_lt_two_pow
def ah3:=@World.ownsRow_nil
def ah4:=@Bool.true_and
def ah5:=@DataW.trod_lt
def ah6:=@Int.mul_ediv_cancel_left
def ah7:=@Option.isSome_iff_exists.{0}
def ah8:=@List.any_eq_true.{0}
def ah9:=@List.getElem?_cons_zero.{0}
def aia:=@List.length_drop.{0}
def aib:=@Nat.div_eq_of_lt
def aic:=@WalkArith.wf_i64
def aid:=@Int.add_zero
def aie:=@Int.le_trans
def aif:=@Int.ofNat_le
def aig:=@Nat.div_div_eq_div_mul
def aih:=@Int.ediv_mul_le
def aii:=@Int.neg_mul_neg
def aij:=@Nat.div_add_mod
def aik:=@Nat.zero_lt_two
def ail:=@Int.emod_add_mul_ediv
def aim:=@Int.le_ediv_of_mul_le
def ain:=@Nat.add_sub_add_right
def aip:=@Array.getElem_of_mem.{0}
def aiq:=@Classical.not_forall.{1}
def air:=@Eq.trans.{1}
def ais:=@Int.mul_add
def ait:=@Int.mul_one
def aiu:=@List.getElem?_mapIdx.{0,0}
def aiv:=@List.pairwise_append.{0}
def aiw:=@Maps.int_keyed
def aix:=@Nat.eq_of_testBit_eq
def aiy:=@Nat.mul_pos
def aiz:=@Nat.testBit_or
def aiA:=@Int.ediv_mul_cancel
def aiB:=@List.filter_eq_self.{0}
def aiC:=@List.getD_cons_succ.{0}
def aiD:=@List.length_flatMap.{0,0}
def aiE:=@List.replicate_zero.{0}
def aiF:=@List.sum_cons.{0}
def aiG:=@Nat.lt_irrefl
def aiH:=@Prod.mk.injEq.{0,0}
def aiI:=@Array.getElem?_map.{0,0}
def aiJ:=@Below.trod
def aiL:=@Int.natCast_nonneg
def aiM:=@Int.sub_eq_add_neg
def aiN:=@List.filter_append.{0}
def aiO:=@List.map_replicate.{0,0}
def aiP:=@World.ownsRow_made
def aiT:=@Int.sub_self
def aiU:=@Int.sub_zero
def aiX:=@List.map_set.{0,0}
def aiY:=@List.set_set.{0}
def ai1:=@Nat.pow_zero
def ai7:=@Int.mul_neg
def ai8:=@Int.sub_mul
def ai9:=@Nat.mul_add
def aja:=@Nat.mul_one
def ajc:=@Prod.mk.inj.{0,0}
abbrev FF:=Nat->Nat->Int
variable {n m:Nat} {w W:World} {x:Int} {e:List Int} {f:Option Addr} {g:List (List Int)} {h:TypeId} {j:Nat->Nat} {l:Value} {o:List Value}
variable {b c:FF}
def fm (w b:World):Prop:=Below w.heap.size w b
theorem fm.refl (w:World):fm w w:=Below.refl _ _
theorem fm.trans {a:World} (h:fm a w) (k:fm w W):fm a W:=Below.trans h (Below.mono k h.size)
theorem fm.drew {a:World} (h:fm a w):fm a w.drew:=Below.drew h
theorem fm.drewN {a:World} (h:fm a w) (n:Nat):fm a (w.drewN n):=⟨h.os,h.tape,h.output,h.size,h.block⟩
theorem fm.alloc {a:World} (h:fm a w) (o:Obj):fm a (w.alloc o):=Below.alloc h h.size o
theorem fm.grown {a:World} {row:Option Nat} (h:fm a w) (e:w.grownBy W row) (f: ∀k,row=some k->a.heap.size<=k):fm a W:=
 Below.grown h e h.size f
theorem fm.cell {a:World} (h:fm a w) {p:Addr} (e:a.cell? p=some l):w.cell? p=some l:=by
 have c:p.block<a.heap.size:=by
  grind [World.cell?]
 rw[Below.cell h c];exact e
theorem fm.size {a:World} (h:fm a w):a.heap.size<=w.heap.size:=Below.size h
theorem zg {p:Addr} (b:w.cell? p=some l):p.block<w.heap.size:=by
 grind [World.cell?]
def Rd (w:World) (A:Option Addr) (e:List Value):Prop:=
 e≠[]-> ∃b c,A=some ⟨b,c,none⟩/\ ∀i x,e[i]?=some x->w.cell? ⟨b,c+i,none⟩=some x
theorem Rd.nil (w:World) (A:Option Addr):Rd w A []:=fun h=>absurd rfl h
theorem Rd.ext (h:Rd w f o) (k:fm w W):Rd W f o:=fun c=>by
 obtain⟨b,e,rfl,g⟩:=h c;exact⟨b,e,rfl,fun i x j=>k.cell (g i x j)⟩
theorem Rd.at_ (h:Rd w f o) {k:Nat} (g:o[k]?=some l):
  ∃b c,f=some ⟨b,c,none⟩/\w.cell? ⟨b,c+k,none⟩=some l:=by
 obtain⟨b,c,rfl,e⟩:=h (by grind);grind
def RdI (k:IntKind) (w:World) (A:Option Addr) (b:List Int):Prop:=Rd w A (b.map (Value.int k))
theorem RdI.nil (k:IntKind) (w:World) (A:Option Addr):RdI k w A []:=Rd.nil w A
theorem RdI.ext {k:IntKind} (h:RdI k w f e) (b:fm w W):RdI k W f e:=Rd.ext h b
theorem RdI.at_ {k:IntKind} (h:RdI k w f e) {i:Nat} (g:e[i]?=some x):
  ∃b c,f=some ⟨b,c,none⟩/\w.cell? ⟨b,c+i,none⟩=some (.int k x):=Rd.at_ h (by simp[g])
def SlI (k:IntKind) (w:World) (v:Value) (b:List Int):Prop:=
 ∃B c,v= .slice B b.length c/\b.length<=c/\b.length<=9223372036854775807/\RdI k w B b
theorem SlI.ext {k:IntKind} (h:SlI k w l e) (b:fm w W):SlI k W l e:=by
 obtain⟨B,c,f,g,j,m⟩:=h;exact⟨B,c,f,g,j,m.ext b⟩
def S9 (k:IntKind) (w:World) (A:Option Addr) (c:List (List Int)):Prop:=
 c≠[]-> ∃b e,A=some ⟨b,e,none⟩/\ ∀i r,c[i]?=some r-> ∃v,w.cell? ⟨b,e+i,none⟩=some v/\SlI k w v r
theorem S9.nil (k:IntKind) (w:World) (A:Option Addr):S9 k w A []:=fun h=>absurd rfl h
theorem S9.ext {k:IntKind} (h:S9 k w f g) (e:fm w W):S9 k W f g:=fun c=>by
 obtain⟨b,j,rfl,n⟩:=h c;exact⟨b,j,rfl,fun i r o=>by obtain⟨v,l,m⟩:=n i r o;exact⟨v,e.cell l,m.ext e⟩⟩
theorem S9.at_ {k:IntKind} (h:S9 k w f g) {i:Nat} (m:g[i]?=some e):
  ∃b j B c,f=some ⟨b,j,none⟩/\w.cell? ⟨b,j+i,none⟩=some (.slice B e.length c)/\e.length<=c/\e.length<=9223372036854775807/\RdI k w B e:=by
 obtain⟨b,j,rfl,l⟩:=h (by grind);obtain⟨v,n,B,c,rfl,o,p,q⟩:=l i e m;grind
theorem getElem?_of_lt {b:Type} {l:List b} {k:Nat} (h:k<l.length): ∃x,l[k]?=some x:=⟨l[k],aeR h⟩
theorem lh {k:IntKind} {a:Int} (h:a=x):Ending.returned (.int k a)= .returned (.int k x):=by rw[h]
section
open Go.ChangeShapes Go.WideShapes Go.ChangeAt Go.RowKit
theorem Tryz.ownKnob_:ownKnob prog.godebug=none:=by kernel_rfl
theorem Tryz.laidOut_:laidOutB prog=true:=by kernel_rfl
theorem VT {H:Type} {enc:TypeId×Value->H} {P:Program} {base:Nat} {held:Bool} {e:TypeId} {k:IntKind} {a:Option Addr} {len cap:Nat} {d:DataW H} {p:List MemPlace} (F:P.underlying h=some (.slice e)) (z:P.underlying e=some (.int k)) (v:P.cellsOf e=1) (f:DataW.Trod enc P w base (fun _=>true) held h (.slice a len cap) d p):
  ∃o:List Int,len=o.length/\len<=cap/\cap<=maxLen/\RdI k w a o/\(∀n∈o,(Lit.int k n).wf=true)/\((d= .nil/\len=0)\/ ∃j,d= .slice (lits k o) j/\j.length=cap-len):=by
 obtain⟨u,A⟩:=f;rcases open_ints F z v A with⟨g,s⟩|⟨x,l,c,o,g,_,B,C,G,s,m,r⟩
 ·simp[Value.cells]at g;obtain⟨rfl,rfl,rfl⟩:=g;exact⟨[],rfl,aeJ _,afl _,RdI.nil _ _ _,by simp,.inl ⟨(ajc s).1,rfl⟩⟩
 simp[Value.cells]at g;obtain⟨rfl,rfl,rfl⟩:=g;simp at G;refine⟨o.take len,by simp;omega,B,C,fun E=>?_,fun n D=>r n (agf D),.inr ⟨_,(ajc s).1,by grind [lits]⟩⟩;have q:0<o.length:=by
  grind
 obtain⟨b,I,rfl,y⟩:=ints_at m q;grind
theorem XQ (h:(Lit.int .i8 x).wf=true): -128<=x/\x<=127:=by
 grind [Lit.wf,IntKind.min,IntKind.max,IntKind.signed,IntKind.bits]
theorem CM (h:(Lit.int .u8 x).wf=true):0<=x/\x<=255:=by
 simp_all[Go.bounds_u8]
end
theorem jN {f:Nat->Value} (c:w.rowIs n h m f) (e:fm w W):W.rowIs n h m f:=c.of_block (e.block n c.lt)
theorem rF {f:Nat->Value} (c:w.rowIs n h m f) (k:Nat):(w.drewN k).rowIs n h m f:=c
section
section
variable {P:Program} (w:World)
theorem B4 (base:Nat) (t m e:TypeId) (i:TypeInfo) (size:Nat) (j:P.underlying t=some (.slice e)) (h:P.info? e=some i)
  (v:Value) (n:Nat) (o:List Value) (b:w.ownsRow base e size v n o) (c:Nat):(Builtin.append_ #[t,t] m #[v,.slice none 0 c]).run P w= .ok v w:=by
 rcases b.2 with⟨rfl,rfl⟩|⟨g,cap,l,rfl,_,_,f,_⟩
 ·simp[Builtin.append_,run_underlying j,sizeOf,typeInfo,h,Builtin.lenOf,Builtin.firstCells]
 simp[Builtin.append_,run_underlying j,sizeOf,typeInfo,h,Builtin.lenOf,Builtin.firstCells,f,storeCells]
theorem og (base:Nat) (t G e:TypeId) (z:Value) (size bytes:Nat) (K:P.underlying t=some (.slice e)) (o:(P.info? e).map (fun i=>(i.zero,i.size,i.bytes))=some (some z,size,bytes))
  (y:z.cells.size=size) (p:0<size)
  (v:Value) (n:Nat) (D:List Value) (l:w.ownsRow base e size v n D)
  (A:Option Addr) (m c:Nat) (f:List Value) (U:Rd w A f) (S:f.length=m*size) (N: ∀u∈f,u.oneCell'=true)
  (r:n+m<=maxLen) (g:(n+m)*bytes<=140737488355328) (h:base<=w.heap.size):
  ∃q C,(Builtin.append_ #[t,t] G #[v,.slice A m c]).run P w= .ok q C/\C.ownsRow base e size q (n+m) (D++f)/\w.grownBy C v.ownBlock/\(q.ownBlock=v.ownBlock\/q.ownBlock=some w.heap.size):=by
 obtain⟨i,I,B⟩:=adT.1 o;simp only[aiH]at B;obtain⟨L,J,H⟩:=B;by_cases s:f=[]
 ·subst s;have T:m=0:=by
   rcases Nat.eq_zero_or_pos m with E|E
   ·exact E
   have:=aiy E p;grind
  subst T;rcases A with _|M
  ·grind [B4,World.grownBy.refl]
  obtain⟨q,C,x,O,Q,_,R⟩:=run_append_own_at (P:=P) w base t G e i z size bytes K I L J H y p v n D l M 0 c [] (by simp) (by simp) (by simp) r g h;grind
 obtain⟨b,F,rfl,V⟩:=U s;obtain⟨q,C,x,O,Q,_,R⟩:=run_append_own_at (P:=P) w base t G e i z size bytes K I L J H y p v n D l ⟨b,F,none⟩ m c f S (fun j u W=>by
  grind [Addr.add]) N r g h
 grind
theorem x9 {y:Array Oper} {g:List Oper} {o:Oper} {a:Act} {Q:Exit->Act->World->Prop} (D:o.guard=none) (s x:Operand) (t:TypeId)
  (O:o.op= .call {callee:= .builtin .append,args:= #[s,x],argTypes:= #[t,t]})
  (base:Nat) (e:TypeId) (z:Value) (size bytes:Nat) (T:P.underlying t=some (.slice e)) (l:(P.info? e).map (fun i=>(i.zero,i.size,i.bytes))=some (some z,size,bytes))
  (F:z.cells.size=size) (E:0<size)
  (v:Value) (n:Nat) (G:List Value) (S:a.eval s=v) (q:w.ownsRow base e size v n G)
  (A:Option Addr) (m c:Nat) (b:List Value) (U:a.eval x= .slice A m c) (R:Rd w A b) (N:b.length=m*size) (H: ∀u∈b,u.oneCell'=true)
  (C:n+m<=maxLen) (f:(n+m)*bytes<=140737488355328) (j:base<=w.heap.size)
  (h: ∀p B,B.ownsRow base e size p (n+m) (G++b)->w.grownBy B v.ownBlock->(p.ownBlock=v.ownBlock\/p.ownBlock=some w.heap.size)->wpList P y Q g (a.put o.dst p) B):wpList P y Q (o::g) a w:=by
 refine wpList_plain D fun K M=>?_
 obtain⟨p,B,r,I,J,L⟩:=og (P:=P) w base t o.type e z size bytes T l F E v n G q A m c b R N H C f j;unfold Oper.wp execOp;simp only[O,resolve,invoke,builtin,aeU,afC,aeH,ahz,aeX,afh,S,U,r];exact M _ _ (h p B I J L)
end
theorem FU {k:IntKind}: ∀u∈e.map (Value.int k),u.oneCell'=true:=by
 intro u b;obtain⟨z,_,rfl⟩:=aeL.1 b;rfl
theorem QY {c:World} {base:Nat} {size:Nat} (f:w.grownBy c l.ownBlock) (j:w.ownsRow base h size l n o) (b:fm W w) (m:W.heap.size<=base):fm W c:=
 b.grown f (fun k g=>by have:=(j.lt k g).1;omega)
end
def eH (r:Nat->Int):(List Nat->Int)->List Nat->Int
 |_,[]=>0
 |f,c::b=>r c*f b-eH r (fun l=>f (c::l)) b
theorem Fs (a b:Int) (r s:Nat->Int): ∀(e:List Nat) (f:List Nat->Int),eH (fun c=>a*r c+b*s c) f e=a*eH r f e+b*eH s f e
 |[],f=>by simp[eH]
 |c::e,f=>by
  simp only[eH,Fs a b r s e];grind
theorem Bc (r:Nat->Int) (a b:Int): ∀(e:List Nat) (f g:List Nat->Int),eH r (fun l=>a*f l+b*g l) e=a*eH r f e+b*eH r g e
 |[],f,g=>by simp[eH]
 |c::e,f,g=>by
  simp only[eH,Bc r a b e];grind
theorem IN (r:Nat->Int): ∀(b:List Nat),eH r (fun _=>0) b=0
 |[]=>rfl
 |c::b=>by simp[eH,IN r b]
theorem Bb (r s:Nat->Int): ∀(b:List Nat) (f:List Nat->Int),eH r (eH s f) b= - eH s (eH r f) b
 |[],f=>by simp[eH]
 |c::b,f=>by
  have e:(fun l=>eH s f (c::l))=fun l=>s c*f l+(-1)*eH s (fun m=>f (c::m)) l:=by grind [eH]
  have g:(fun l=>eH r f (c::l))=fun l=>r c*f l+(-1)*eH r (fun m=>f (c::m)) l:=by grind [eH]
  have h:=Bb r s b (fun m=>f (c::m));rw[eH,eH,e,g,Bc,Bc];omega
theorem acr (r:Nat->Int) (b:List Nat) (f:List Nat->Int):eH r (eH r f) b=0:=by
 grind [Bb]
theorem nF {r:Nat->Int}: ∀(b:List Nat) (f:List Nat->Int),(∀c∈b,r c=0)->eH r f b=0
 |[],_,_=>rfl
 |c::b,f,h=>by
  rw[eH,nF b _ (fun c e=>h c (afy _ e)),h c afM];simp
def om (R:FF):Nat->List Nat->Int
 |0=>fun _=>1
 |k+1=>eH (R k) (om R k)
def jc:Nat->List Nat
 |0=>[]
 |k+1=>k::jc k
theorem iK {k:Nat} (h:n∈jc k):n<k:=by
 induction k with
 |zero=>simp[jc]at h
 |succ k b=>
  rcases afn.1 h with rfl|h
  ·omega
  grind
def bk (R:FF) (k i j:Nat):Int:=eH (R i) (om R k) (j::jc k)
def dk (R:FF) (k:Nat):Int:=om R k (jc k)
theorem b8 (R:FF):dk R 0=1:=rfl
theorem cB (R:FF) (k:Nat):dk R (k+1)=bk R k k k:=rfl
theorem de (R:FF) (i j:Nat):bk R 0 i j=R i j:=by simp[bk,eH,om,jc]
theorem FT (R:FF) {k:Nat} (h:n<k) (b:List Nat):eH (R n) (om R k) b=0:=by
 induction k generalizing b with
 |zero=>omega
 |succ k c=>
  by_cases e:n=k
  ·subst e;exact acr _ _ _
  rw[om,Bb,show eH (R n) (om R k)=fun _=>0 from funext (c (by omega)),IN];rfl
theorem kX (R:FF) {k:Nat} (h:n<k) (j:Nat):bk R k n j=0:=FT R h _
theorem elim (R:FF): ∀k,(∀t,t<k->dk R (t+1)≠0)-> ∃N:Int,N≠0/\ ∀v:Nat->Int,∃b:Nat->Int,(∀c,c<k->b c=0)/\
  ∀m,k<=m-> ∀e,eH b (om R m) e=N*eH v (om R m) e
 |0,_=>⟨1,by omega,fun v=>⟨v,fun c h=>by omega,fun m _ e=>by omega⟩⟩
 |k+1,n=>by
  obtain⟨N,l,j⟩:=elim R k (fun t x=>n t (by omega));obtain⟨r,p,o⟩:=j (R k);have q:r k*dk R k=N*dk R (k+1):=by
   grind [eH,nF,iK,cB,bk,dk]
  have f:r k≠0:=by
   grind [Int.mul_eq_zero]
  refine⟨r k*N,agF f l,fun v=>?_⟩;obtain⟨b,s,g⟩:=j v;refine⟨fun c=>r k*b c+(- b k)*r c,fun c u=>?_,fun m w e=>?_⟩
  ·grind
  rw[Fs,g m (by omega),o m (by omega),FT R (show k<m by omega)];grind
theorem sylv (R:FF) (k:Nat) (C: ∀t,t<k->dk R (t+1)≠0) (i j:Nat):
  dk R k*bk R (k+1) i j=dk R (k+1)*bk R k i j-bk R k i k*bk R k k j:=by
 obtain⟨N,s,w⟩:=elim R k C;obtain⟨v,g,q⟩:=w (R i);obtain⟨u,e,p⟩:=w (R k);have b: ∀{x:Nat->Int} {t:Nat},(∀c,c<k->x c=0)->(∀m,k<=m-> ∀r,eH x (om R m) r=N*eH (R t) (om R m) r)-> ∀j,N*bk R k t j=x j*dk R k:=by
  grind [bk,eH,nF,iK,dk]
 have F:=b g q;have G:=b e p;have z:eH v (eH u (om R k)) (j::k::jc k)=N*N*bk R (k+1) i j:=by
  have y:eH u (om R k)=fun l=>N*eH (R k) (om R k) l+0*0:=by grind
  have D:eH v (eH u (om R k)) (j::k::jc k)=N*eH v (om R (k+1)) (j::k::jc k):=by
   rw[y];have:=Bc v N 0 (j::k::jc k) (eH (R k) (om R k)) (fun _=>0);grind [om]
  grind [bk,jc]
 have A:eH v (eH u (om R k)) (j::k::jc k)=(v j*u k-v k*u j)*dk R k:=by
  have n: ∀{x:Nat->Int} (f:List Nat->Int),(∀c,c<k->x c=0)->eH x f (jc k)=0:=fun f h=>nF (jc k) f (fun c B=>h c (iK B))
  simp only[eH,n _ g,n _ e,dk];grind
 have E:=z.symm.trans A;have o:N*N≠0:=agF s s;apply af4 o;grind [cB]
def CQ (x:List Int):Bool:=x.all fun c=>decide (-1099511627776<=c)&&decide (c<=1099511627776)
theorem C9 {k:Nat} (h:e[k]?=some x) (b:x< -1099511627776\/1099511627776<x):CQ e=false:=by
 unfold CQ;rw[List.all_eq_false];exact⟨x,adQ h,by simp;omega⟩
theorem zR {k:Nat} (g:e.length<=k) (h: ∀j c,j<k->e[j]?=some c-> -1099511627776<=c/\c<=1099511627776):CQ e=true:=by
 unfold CQ;rw[aeP];intro c b;obtain⟨j,f,rfl⟩:=afW b;have:=h j _ (by omega) (aeR f);simp;omega
theorem SN {f:Type} {x:List f} {k:Nat} {P:f->Prop} {c:f} (h: ∀j c,j<k->x[j]?=some c->P c) (l:x[k]?=some c) (g:P c): ∀j c,j<k+1->x[j]?=some c->P c:=by
 intro j d m b;by_cases e:j=k
 ·subst e;rw[l]at b;cases b;exact g
 exact h j d (by omega) b
def ent (b:List (List Int)) (i j:Nat):Int:=(b.getD i []).getD j 0
theorem ZW {p:Prop} [Decidable p] (h:p):Ending.returned (.bool true)= .returned (.bool (decide p)):=by simp[h]
theorem D4 {p:Prop} [Decidable p] (h: ¬p):Ending.returned (.bool false)= .returned (.bool (decide p)):=by simp[h]
def Sq (b:List (List Int)):Prop:= ∀i,i<b.length->(b.getD i []).length=b.length
theorem Sq.at_ (h:Sq g) {i:Nat} (c:g[i]?=some e):e.length=g.length:=by
 have b:i<g.length:=by
  grind
 have:=h i b;grind
def gG (x y:List Int):Nat->Int
 |0=>0
 |l+1=>gG x y l+x.getD l 0*y.getD l 0
theorem zQ (h:CQ e=true) {k:Nat} (b:e[k]?=some x): -1099511627776<=x/\x<=1099511627776:=by
 unfold CQ at h;rw[aeP]at h;have:=h x (adQ b);grind
def w9 (x:List Int):Option (List Int):=
 if CQ x then(match x.find? (fun c=>c !=0)with
  |none=>none
  |some c=>some (if c<0 then x.map (fun a=> -a)else x))else none
theorem mU {a b A B:Int} (j: -A<=a/\a<=A) (l: -B<=b/\b<=B) (h:0<=B) (g:0<=A): -(A*B)<=a*b/\a*b<=A*B:=by
 have c:a.natAbs<=A.toNat:=by omega
 have e:b.natAbs<=B.toNat:=by omega
 have f:(a*b).natAbs<=A.toNat*B.toNat:=by simp_all[afr,afd]
 grind
def G3 (R:FF) (n t:Nat):Prop:= ∀i,i<n->t<i-> -(dk R (t+1))<=2*bk R t i t/\2*bk R t i t<=dk R (t+1)
def X0 (R:FF) (t:Nat):Prop:=3*dk R (t+1)*dk R (t+1)<=4*(dk R t*dk R (t+1+1)+bk R t (t+1) t*bk R t (t+1) t)
def Okt (R:FF) (n t:Nat):Prop:=0<dk R (t+1)/\dk R (t+1)<65536/\G3 R n t
def RedR (R:FF) (n:Nat):Prop:=
 (∀i,i<n-> ∀j,j<n->R i j=R j i)/\(∀k,k<n->0<dk R (k+1))/\dk R n<=10000/\(∀t,t+1<n->G3 R n t/\X0 R t)
theorem iJ {R:FF} {n:Nat} (l: ∀i,i<n-> ∀j,j<n->R i j=R j i): ∀k,k<=n->(∀t,t<k->dk R (t+1)≠0)-> ∀i j,i<n->j<n->bk R k i j=bk R k j i
 |0,_,_,i,j,c,e=>by grind [de]
 |k+1,s,b,i,j,c,e=>by
  have f:=iJ l k (by omega) (fun t g=>b t (by omega));have q:=sylv R k (fun t g=>b t (by omega)) i j;have r:=sylv R k (fun t g=>b t (by omega)) j i;have m:=f i j c e;have o:=f i k c (by omega);have p:=f k j (by omega) e;have h:dk R k≠0:=by
   cases k with
   |zero=>rw[b8];omega
   |succ k=>grind
  grind [Int.eq_of_mul_eq_mul_left]
theorem lS {k:Nat} (h: ∀t,t<k->0<dk b (t+1)):0<dk b k:=by
 cases k with
 |zero=>rw[b8];omega
 |succ k=>grind
theorem aac {C E c a b y:Int} (v:0<=C) (w:0<x) (z:0<E) (q:E<65536) (h:x*y=E*c-a*b) (j: -(C*x)<=c/\c<=C*x) (t: -E<=2*a/\2*a<=E) (u: -E<=2*b/\2*b<=E):
  -((C+16384)*E)<=y/\y<=(C+16384)*E:=by
 have f:=mU t u (by omega) (by omega);have l:2*a*(2*b)=4*(a*b):=by grind
 rw[l]at f;have s:E*E<=65536*E:=aeY (by omega) (by omega);have r:E*1<=E*x:=aeO (by omega) (by omega);have o:E*c<=E*(C*x):=aeO j.2 (by omega);have p:E*(-(C*x))<=E*c:=aeO j.1 (by omega);have m:E*(-(C*x))= -(C*(E*x)):=by grind
 have n:E*(C*x)=C*(E*x):=by grind
 rw[n]at o;rw[m]at p;constructor
 ·rcases afL y (-((C+16384)*E))with g|e
  ·exfalso;have:=aeO (show y<= -((C+16384)*E)-1 by omega) (show 0<=x by omega);grind
  exact e
 rcases afL ((C+16384)*E) y with g|e
 ·exfalso;have:=aeO (show(C+16384)*E+1<=y by omega) (show 0<=x by omega);grind
 exact e
theorem HW {R:FF} {n:Nat} (m: ∀i,i<n-> ∀j,j<n->R i j=R j i) (s: ∀i,i<n-> ∀j,j<n-> -262144<=R i j/\R i j<=262144):
  ∀k,(∀t,t<k->Okt R n t)-> ∀i j,k<=i->i<n->k<=j->j<n-> -((262144+k*16384)*dk R k)<=bk R k i j/\bk R k i j<=(262144+k*16384)*dk R k
 |0,_,i,j,_,h,_,e=>by
  grind [de,b8]
 |k+1,f,i,j,u,h,v,e=>by
  have w:=HW m s k (fun t o=>f t (by omega)) i j (by omega) h (by omega) e;obtain⟨r,g,c⟩:=f k (by omega);have b: ∀t,t<k->dk R (t+1)≠0:=fun t o=>by have:=(f t (by omega)).1;omega
  have q:0<dk R k:=lS (fun t o=>(f t (by omega)).1);have p:=c i h (by omega);have l:=c j e (by omega);rw[iJ m k (by omega) b j k e (by omega)]at l;have:=aac (C:=262144+k*16384) (by omega) q r g (sylv R k b i j) w p l;grind
theorem EQ (v:n<=8) (r: ∀i,i<n-> ∀m,m<n->b i m=b m i) (l: ∀i,i<n-> ∀m,m<n-> -262144<=b i m/\b i m<=262144) {k:Nat} (q:k<n) (c: ∀t,t<k->Okt b n t) {i:Nat} (e:k<=i) (o:i<n) (f:k<=m) (p:m<n): -34359738368<=bk b k i m/\bk b k i m<=34359738368:=by
 have h:=HW r l k c i m e o f p;have u:0<dk b k:=lS (fun t w=>(c t (by omega)).1);have g:dk b k<65536:=by
  cases k with
  |zero=>rw[b8];omega
  |succ k=>exact(c k (by omega)).2.1
 have s:((262144:Int)+k*16384)*dk b k<=524288*65536:=ae0 (by omega) (by omega) (by omega) (by omega);omega
def Sd:Nat->Nat
 |0=>0
 |k+1=>Sd k+(k+1)
theorem DV {a C:Nat} (h:n^a<=C) (f:C<(m+1)^a):n<=m:=by
 rcases agT m n with e|c
 ·have:=afX (show m+1<=n by omega) a;omega
 exact c
theorem abY (h: ∀k,1<=k->k<2->j k^(k+1)<=2^Sd k*j (k+1)^k) (b:j 2<=10000): ∀k,1<=k->k<=2->j k<65536:=by
 have c:j 1<=141:=DV (a:=2) (aeN (h 1 (by omega) (by omega)) (ae7 _ (afX b 1))) (by decide+kernel);grind
theorem abZ (h: ∀k,1<=k->k<3->j k^(k+1)<=2^Sd k*j (k+1)^k) (g:j 3<=10000): ∀k,1<=k->k<=3->j k<65536:=by
 have f:j 2<=928:=DV (a:=3) (aeN (h 2 (by omega) (by omega)) (ae7 _ (afX g 2))) (by decide+kernel);have l:j 1<=43:=DV (a:=2) (aeN (h 1 (by omega) (by omega)) (ae7 _ (afX f 1))) (by decide+kernel);intro k c b
 match k,c,b with
 |1,_,_=>omega
 |2,_,_=>omega
 |3,_,_=>omega
 |k+4,_,b=>omega
theorem ab0 (h: ∀k,1<=k->k<4->j k^(k+1)<=2^Sd k*j (k+1)^k) (l:j 4<=10000): ∀k,1<=k->k<=4->j k<65536:=by
 have g:j 3<=2828:=DV (a:=4) (aeN (h 3 (by omega) (by omega)) (ae7 _ (afX l 3))) (by decide+kernel);have f:j 2<=399:=DV (a:=3) (aeN (h 2 (by omega) (by omega)) (ae7 _ (afX g 2))) (by decide+kernel);have m:j 1<=28:=DV (a:=2) (aeN (h 1 (by omega) (by omega)) (ae7 _ (afX f 1))) (by decide+kernel);intro k c b
 match k,c,b with
 |1,_,_=>omega
 |2,_,_=>omega
 |3,_,_=>omega
 |4,_,_=>omega
 |k+5,_,b=>omega
theorem aaZ {e:Nat->Nat} {n:Nat} (b:e 0=1) (g: ∀k,k<=n->0<e k) (h: ∀k,k+1<n->e (k+1)*e (k+1)<=2*(e k*e (k+2))):
  ∀k,k<n->e k^(k+1)<=2^Sd k*e (k+1)^k
 |0,_=>by simp[b,Sd]
 |k+1,p=>by
  have o:=aaZ b g h k (by omega);have c:=afX (h k (by omega)) (k+1);have j:(e (k+1)*e (k+1))^(k+1)=e (k+1)^k*e (k+1)^(k+1+1):=by
   grind [Nat.mul_pow]
  have l:(2*(e k*e (k+2)))^(k+1)=2^(k+1)*(e k^(k+1)*e (k+2)^(k+1)):=by grind [Nat.mul_pow]
  rw[j,l]at c;have f:2^(k+1)*(e k^(k+1)*e (k+2)^(k+1))<=2^(k+1)*((2^Sd k*e (k+1)^k)*e (k+2)^(k+1)):=ae7 _ (ae2 _ o);have m:2^(k+1)*((2^Sd k*e (k+1)^k)*e (k+2)^(k+1))=e (k+1)^k*(2^Sd (k+1)*e (k+1+1)^(k+1)):=by
   grind [Sd]
  rw[m]at f;exact ahX (aeN c f) (agB (g (k+1) (by omega)))
theorem QC {n:Nat} (f:1<=n) (c:n<=4) (h: ∀k,1<=k->k<n->j k^(k+1)<=2^Sd k*j (k+1)^k) (b:j n<=10000): ∀k,1<=k->k<=n->j k<65536:=by
 match n,f,c with
 |1,_,_=>grind
 |2,_,_=>exact abY h b
 |3,_,_=>exact abZ h b
 |4,_,_=>exact ab0 h b
 |n+5,_,c=>omega
theorem fW (f:1<=n) (j:n<=4) (h:RedR b n): ∀k,k<n->dk b (k+1)<65536:=by
 obtain⟨_,q,s,o⟩:=h;have g: ∀k,k<=n->0<dk b k:=fun k c=>lS (fun t u=>q t (by omega))
 intro k c;have l:=aaZ (e:=fun k=>(dk b k).toNat) (n:=n) (by rfl) (fun k c=>by grind) (fun k c=>?_)
 ·have:=QC f j (fun k _ c=>l k c) (by omega) (k+1) (by omega) (by omega);omega
 obtain⟨r,p⟩:=o k c;have f:=r (k+1) (by omega) (by omega);have m:=mU f f (by omega) (by omega);grind [X0]
theorem aab {C E c a b y:Int} (v:0<=C) (w:0<x) (z:0<E) (q:E<65536) (h:x*y=E*c-a*b) (j: -(C*E)<=y/\y<=C*E) (t: -E<=2*a/\2*a<=E) (u: -E<=2*b/\2*b<=E):
  -((C+16384)*x)<=c/\c<=(C+16384)*x:=by
 have f:=mU t u (by omega) (by omega);have l:2*a*(2*b)=4*(a*b):=by grind
 rw[l]at f;have s:E*E<=65536*E:=aeY (by omega) (by omega);have r:E*1<=E*x:=aeO (by omega) (by omega);have o:x*y<=x*(C*E):=aeO j.2 (by omega);have p:x*(-(C*E))<=x*y:=aeO j.1 (by omega);have m:x*(-(C*E))= -(C*(E*x)):=by grind
 have n:x*(C*E)=C*(E*x):=by grind
 rw[n]at o;rw[m]at p;constructor
 ·rcases afL c (-((C+16384)*x))with g|e
  ·exfalso;have:=aeO (show c<= -((C+16384)*x)-1 by omega) (show 0<=E by omega);grind
  exact e
 rcases afL ((C+16384)*x) c with g|e
 ·exfalso;have:=aeO (show(C+16384)*x+1<=c by omega) (show 0<=E by omega);grind
 exact e
theorem uT {R:FF} {n:Nat} (r: ∀i,i<n-> ∀j,j<n->R i j=R j i) (g: ∀k,k<n->0<dk R (k+1)) (c: ∀k,k<n->dk R (k+1)<65536) (h: ∀t,t+1<n->G3 R n t)
  {i:Nat} (l:i<n): ∀m j k:Nat,j=k+m->j<=i-> -((65535+(m:Int)*16384)*dk R k)<=bk R k i j/\bk R k i j<=(65535+(m:Int)*16384)*dk R k
 |0,j,k,b,q=>by
  have b:j=k:=by omega
  subst b;have p:0<dk R j:=lS (fun t s=>g t (by omega));have y:=g j (by omega);have v:=c j (by omega);have w: -(dk R (j+1))<=bk R j i j/\bk R j i j<=dk R (j+1):=by
   by_cases e:i=j
   ·grind [cB]
   have:=h j (by omega) i l (by omega);omega
  omega
 |m+1,j,k,b,q=>by
  have x:=uT r g c h l m j (k+1) (by omega) q;have f: ∀t,t<k->dk R (t+1)≠0:=fun t s=>by grind
  have p:0<dk R k:=lS (fun t s=>g t (by omega));have u:=h k (by omega) i l (by omega);have o:=h k (by omega) j (by omega) (by omega);rw[iJ r k (by omega) f j k (by omega) (by omega)]at o;have:=aab (C:=65535+m*16384) (by omega) p (g k (by omega)) (c k (by omega)) (sylv R k f i j) x u o;grind
theorem iZ (e:1<=n) (f:n<=4) (h:RedR b n): ∀i,i<n-> ∀j,j<n-> -262144<b i j/\b i j<262144:=by
 have c:=fW e f h;obtain⟨p,o,r,m⟩:=h;have key: ∀i,i<n-> ∀j,j<=i-> -262144<b i j/\b i j<262144:=by
  intro i g j l;have:=uT p o c (fun t q=>(m t q).1) g j j 0 (by omega) l;grind [de,b8]
 grind
def Ta (b:List (List Int)):Prop:=1<=b.length/\b.length<=4/\Sq b/\RedR (ent b) b.length
instance (R:FF) (n t:Nat):Decidable (G3 R n t):=inferInstanceAs (Decidable (∀i,i<n->t<i->_/\_))
instance (R:FF) (t:Nat):Decidable (X0 R t):=inferInstanceAs (Decidable (_<=_))
instance (R:FF) (n:Nat):Decidable (RedR R n):=decidable_of_iff ((∀i,i<n-> ∀j,j<n->R i j=R j i)/\(∀k,k<n->0<dk R (k+1))/\dk R n<=10000/\ ∀t,t<n->t+1<n->G3 R n t/\X0 R t)
 ⟨fun⟨a,b,c,d⟩=>⟨a,b,c,fun t h=>d t (by omega) h⟩,fun⟨a,b,c,d⟩=>⟨a,b,c,fun t _ h=>d t h⟩⟩
instance (rows:List (List Int)):Decidable (Ta rows):=inferInstanceAs (Decidable (_/\_/\(∀i,i<rows.length->_)/\_))
def isReducedM (b:List (List Int)):Bool:=decide (Ta b)
theorem iL (b:List (List Int)):isReducedM b=true↔Ta b:=decide_eq_true_iff
def aA (m:Nat) (g:Nat->Int):List Int:=(List.range m).map g
def mat (n m:Nat) (f:FF):List (List Int):=(List.range n).map fun i=>aA m (f i)
theorem az (m:Nat) (g:Nat->Int):(aA m g).length=m:=by simp[aA]
theorem aS (n m:Nat) (f:FF):(mat n m f).length=n:=by simp[mat]
theorem aw {m j:Nat} (g:Nat->Int) (h:j<m):(aA m g)[j]?=some (g j):=by simp[aA,h]
theorem bA {n i:Nat} (m:Nat) (f:FF) (h:i<n):(mat n m f)[i]?=some (aA m (f i)):=by simp[mat,h]
theorem bG {m:Nat} {g g':Nat->Int} (h: ∀j,j<m->g j=g' j):aA m g=aA m g':=ae1 fun j b=>h j (afE.1 b)
theorem gJ (h: ∀i j,i<n->j<m->b i j=c i j):mat n m b=mat n m c:=
 ae1 fun i e=>bG fun j g=>h i j (afE.1 e) g
theorem lQ (g:Nat->Int) (v:Int):(aA n g).set m v=aA n (fun c=>if c=m then v else g c):=by
 apply aeW;grind [aA]
theorem OQ {i:Nat} (f:FF) (g:Nat->Int):(mat n m f).set i (aA m g)=mat n m (fun r=>if r=i then g else f r):=by
 apply aeW;grind [mat]
theorem Wg (l:List Int):l=aA l.length fun j=>l.getD j 0:=by
 apply aeW;grind [aw,az]
theorem OP (h: ∀r∈g,r.length=n):g=mat g.length n (ent g):=by
 apply aeW;intro c;by_cases b:c<g.length
 ·rw[bA _ _ b,aeR b];grind [Wg,List.getElem_mem,bG,ent]
 grind [aS]
theorem mj {i j:Nat} (f:FF) (b:i<n) (c:j<m):ent (mat n m f) i j=f i j:=by
 simp_all[ent,bA,aw]
def piv (f:FF) (n k p:Nat):Nat:=if p<n then(if f p k=0 then piv f n k (p+1)else p)else n
termination_by n-p
def swp (p k:Nat) (f:FF):Nat->Nat->Int:=fun i=>if i=p then f k else if i=k then f p else f i
def LW (k:Nat) (last:Int) (f:FF):Nat->Nat->Int:=fun i j=>if k<i/\k<j then(f k k*f i j-f i k*f k j)/last else f i j
def pvt (n k:Nat) (f:FF):Nat->Nat->Int:=swp (piv f n k k) k f
def detG (n k:Nat) (f:FF) (last:Int) (neg:Bool):Int:=
 if k<n then(if piv f n k k=n then 0 else detG n (k+1) (LW k last (pvt n k f)) (pvt n k f k k) (neg !=decide (k<piv f n k k)))
 else if neg then -last else last
termination_by n-k
def detF (n:Nat) (f:FF):Int:=detG n 0 f 1 false
theorem F0 {k:Nat} (h:m<n) (c:b m k=0):piv b n k m=piv b n k (m+1):=by grind [piv]
theorem FZ {k:Nat} (h:m<n) (c:b m k≠0):piv b n k m=m:=by grind [piv]
theorem zt {k:Nat} (h: ¬m<n):piv b n k m=n:=by grind [piv]
theorem wA (k:Nat) (f:FF):swp k k f=f:=by
 grind [swp]
theorem N9 {f:FF} {n:Nat} (c: ∀t,t+1<n->dk f (t+1)≠0): ∀m k g,n-k=m->k<=n->(∀i j,k<=i->i<n->k<=j->j<n->g i j=bk f k i j)->detG n k g (dk f k) false=dk f n
 |0,k,g,q,p,_=>by
  grind [detG]
 |m+1,k,g,q,p,s=>by
  have b:g k k=dk f (k+1):=by grind [cB]
  rw[detG,if_pos (show k<n by omega)];by_cases h:g k k=0
  ·grind [F0,zt]
  have e:piv g n k k=k:=FZ (by omega) h;rw[e,if_neg (by omega),pvt,e,wA,b];have r:dk f k≠0:=by
   cases k with
   |zero=>rw[b8];omega
   |succ k=>grind
  rw[show(false !=decide (k<k))=false by simp];refine N9 c m (k+1) _ (by omega) (by omega) fun i j u l v o=>?_
  have w:=sylv f k (fun t x=>c t (by omega)) i j;show(if k<i/\k<j then _ else _)=_;grind [Int.mul_ediv_cancel_left]
theorem ip (c: ∀t,t+1<n->dk b (t+1)≠0):detF n b=dk b n:=
 N9 c n 0 b rfl (by omega) fun i j _ _ _ _=>(de b i j).symm
theorem rz {f g:FF}: ∀{k:Nat},(∀i,i<k->f i=g i)->om f k=om g k
 |0,_=>rfl
 |k+1,h=>by rw[om,om,h k (by omega),rz fun i b=>h i (by omega)]
theorem xt {r s:Nat->Int}: ∀(b:List Nat) {f g:List Nat->Int},(∀c∈b,r c=s c)->(∀l,(∀c∈l,c∈b)->f l=g l)->eH r f b=eH s g b
 |[],_,_,_,_=>rfl
 |c::b,f,g,h,j=>by
  rw[eH,eH,h c afM,j b (fun c e=>afy _ e),xt b (fun c e=>h c (afy _ e)) (fun l n=>j (c::l) (fun d m=>by
   grind))]
theorem vG {f g:FF}: ∀{k:Nat} {b:List Nat},(∀i,i<k-> ∀c∈b,f i c=g i c)->om f k b=om g k b
 |0,_,_=>rfl
 |k+1,b,h=>by
  show eH (f k) (om f k) b=eH (g k) (om g k) b;exact xt b (fun c e=>h k (by omega) c e) (fun l j=>vG fun i m c e=>h i (by omega) c (j c e))
theorem cy {f g:FF} {k:Nat} (h: ∀i j,i<k->j<k->f i j=g i j):dk f k=dk g k:=vG fun i e c b=>h i c e (iK b)
theorem K9 {i:Nat} (h: ∀r e,r<n->e<=n->c r e=b r e) (o: ∀e,e<=n->c n e=b i e):dk c (n+1)=bk b n i n:=by
 rw[cB,bk,bk];refine xt _ (fun e m=>?_) (fun l p=>vG fun r q e m=>?_)
 ·rcases afn.1 m with rfl|m
  ·grind
  exact o e (by have:=iK m;omega)
 have:=p e m;rcases afn.1 this with rfl|this
 ·grind
 exact h r e q (by have:=iK this;omega)
def vr (f:FF) (i j:Nat):Nat->Nat->Int:=fun r c=>if r<j then f r c else f i c
def lam (f:FF) (i j:Nat):Int:=detF (j+1) (vr f i j)
def dd (f:FF) (k:Nat):Int:=if k=0 then 1 else detF k f
def SymF (f:FF) (n:Nat):Prop:= ∀i,i<n-> ∀j,j<n->f i j=f j i
def uG (f:FF) (n:Nat):Prop:= ∀k,k<n->0<detF (k+1) f
def SizF (f:FF) (i j:Nat):Prop:=2*((lam f i j).natAbs:Int)<=dd f (j+1)
def LovF (f:FF) (i:Nat):Prop:=3*(dd f i*dd f i)<=4*(dd f (i-1)*dd f (i+1)+lam f i (i-1)*lam f i (i-1))
def abA (f:FF) (n:Nat):Prop:= ∀i,i<n->(∀j,j<i->SizF f i j)/\(0<i->LovF f i)
theorem n9 (h:uG b n): ∀k,k<n->0<dk b (k+1)/\detF (k+1) b=dk b (k+1):=by
 intro k
 induction k using Nat.strongRecOn with
 |ind k j=>
  intro c;have e:detF (k+1) b=dk b (k+1):=ip fun t g=>by grind
  exact⟨e▸h k c,e⟩
theorem va (h: ∀k,k<n->0<dk b (k+1)): ∀k,k<n->detF (k+1) b=dk b (k+1):=fun k c=>
 ip fun t e=>by grind
theorem nB (h: ∀k,k<n->0<dk b (k+1)) {k:Nat} (c:k<=n):dd b k=dk b k:=by
 cases k with
 |zero=>rfl
 |succ k=>exact va h k (by omega)
theorem tV (h: ∀k,k<n->0<dk b (k+1)) {i:Nat} (l:m<n):lam b i m=bk b m i m:=by
 have e: ∀t,t+1<m+1->dk (vr b i m) (t+1)=dk b (t+1):=fun t p=>cy fun r c o g=>by
  grind [vr]
 grind [lam,ip,K9,vr]
theorem Ga (v:1<=n):(SymF b n/\uG b n/\detF n b<=10000/\abA b n)↔RedR b n:=by
 constructor
 ·rintro⟨h,p,l,g⟩;have c: ∀k,k<n->0<dk b (k+1):=fun k q=>(n9 p k q).1
  have e:detF n b=dk b n:=by
   have:=(n9 p (n-1) (by omega)).2;grind
  refine⟨h,c,e▸l,fun t s=>⟨fun i m o=>?_,?_⟩⟩
  ·have:=(g i m).1 t o;grind [SizF,tV,nB]
  have:=(g (t+1) s).2 (by omega);rw[LovF,tV c (by omega),nB c (by omega),nB c (by omega),nB c (by omega)]at this;grind [X0]
 rintro⟨h,c,l,g⟩;have e:detF n b=dk b n:=by
  have:=va c (n-1) (by omega);grind
 refine⟨h,fun k q=>?_,e.symm▸l,fun i m=>⟨fun j r=>?_,fun u=>?_⟩⟩
 ·grind [va]
 ·have:=(g j (by omega)).1 i m r;grind [SizF,tV,nB]
 have:=(g (i-1) (by omega)).2;rw[X0,ahb,show i-1+1=i by omega]at this;rw[LovF,tV c (by omega),nB c (by omega),nB c (by omega),nB c (by omega)];exact this
section
def gO (f:FF) (i j:Nat) (c:Int):Nat->Nat->Int:=fun a b=>f a b+(if a=i then c*f j b else 0)+(if b=i then c*f a j else 0)+(if a=i then(if b=i then c*c*f j j else 0)else 0)
def tf (m a:Nat):Nat:=if a=m then m+1 else if a=m+1 then m else a
def oq (f:FF) (m:Nat):Nat->Nat->Int:=fun a b=>f (tf m a) (tf m b)
theorem acQ {a:Nat} (h:a<n):tf n a=a:=by grind [tf]
theorem Gm {a:Nat} (h:n+1<a):tf n a=a:=by grind [tf]
theorem Pn (m:Nat):tf m m=m+1:=by simp[tf]
theorem Gn (m:Nat):tf m (m+1)=m:=by simp[tf]
theorem un {a:Nat} (b:n+1<m) (h:a<m):tf n a<m:=by grind [tf]
theorem Oh {f:FF} {k:Nat} (h: ∀t,t<k->dk f (t+1)≠0):dk f k≠0:=by
 cases k with
 |zero=>rw[b8];omega
 |succ k=>grind
theorem Am {i a:Nat} (e:a≠i) (f:m≠i):gO b i n x a m=b a m:=by
 grind [gO]
theorem TN {f:FF} {i j:Nat} {c:Int} (o:j<i): ∀k,k<=j+1->(∀t,t<k->dk f (t+1)≠0)->(∀l,l<=k->dk (gO f i j c) l=dk f l)/\ ∀a b,bk (gO f i j c) k a b=gO (bk f k) i j c a b
 |0,_,_=>⟨fun l h=>by have:l=0:=(by omega);subst this;rfl,fun a b=>by grind [de,gO]⟩
 |k+1,x,e=>by
  obtain⟨u,m⟩:=TN (c:=c) o k (by omega) (fun t g=>e t (by omega));have r:dk (gO f i j c) (k+1)=dk f (k+1):=by grind [cB,Am]
  have n: ∀t,t<k->dk (gO f i j c) (t+1)≠0:=fun t g=>by grind
  refine⟨fun l h=>?_,fun a b=>?_⟩
  ·grind
  have q:=Oh (f:=f) (k:=k) (fun t g=>e t (by omega));have s:=sylv (gO f i j c) k n a b;rw[u k (by omega),r,m a b,m a k,m k b]at s;have y:=sylv f k (fun t g=>e t (by omega)) a b;have z:=sylv f k (fun t g=>e t (by omega)) j b;have A:=sylv f k (fun t g=>e t (by omega)) a j;have B:=sylv f k (fun t g=>e t (by omega)) j j;refine af4 q ?_;rw[s];have p: ¬k=i:=by omega
  unfold gO;by_cases v:a=i
  ·by_cases w:b=i
   ·simp only[v,w,p,if_true,if_false];grind
   grind
  grind
theorem NU {f g:FF} {n k0:Nat} (j: ∀t,t<n->dk f (t+1)≠0) (l: ∀t,t<k0->dk g (t+1)≠0) (h:dk g k0=dk f k0) (e: ∀a b,a<n->b<n->bk g k0 a b=bk f k0 a b):
  ∀k,k0<=k->k<=n->(∀c,k0<=c->c<=k->dk g c=dk f c)/\ ∀a b,a<n->b<n->bk g k a b=bk f k a b:=by
 intro k
 induction k with
 |zero=>grind
 |succ k m=>
  grind [cB,Oh,sylv,Int.eq_of_mul_eq_mul_left]
section
variable {f:FF} {n:Nat}
theorem EO (h:SymF f n) (g: ∀m,m<n->dk f (m+1)≠0) {k a:Nat} (e:k<=n) (b:m<k) (c:a<n):bk f k a m=0:=by
 rw[iJ h k e (fun m b=>g m (by omega)) a m c (by omega),kX f b]
theorem mL (z:SymF f n) (p: ∀t,t<n->dk f (t+1)≠0) {i:Nat} (c:Int) (l:m<i) (y:i<n):
  (∀k,k<=n->dk (gO f i m c) k=dk f k)/\(∀k a b,k<=m->bk (gO f i m c) k a b=gO (bk f k) i m c a b)/\ ∀k a b,m<k->k<=n->a<n->b<n->bk (gO f i m c) k a b=bk f k a b:=by
 have h:=TN (f:=f) (c:=c) l;obtain⟨v,x⟩:=h (m+1) (aeJ _) (fun t s=>p t (by omega));have u: ∀a b,a<n->b<n->bk (gO f i m c) (m+1) a b=bk f (m+1) a b:=fun a b q r=>by
  grind [gO,kX,EO]
 have e:=NU (f:=f) (g:=gO f i m c) (n:=n) (k0:=m+1) p (fun t s=>by grind) (v (m+1) (by omega)) u;refine⟨fun k o=>?_,fun k a b o=>(h k (by omega) (fun t s=>p t (by omega))).2 a b,fun k a b w o q r=>(e k (by omega) o).2 a b q r⟩;grind
theorem EP {m:Nat}: ∀k,k<=m->(∀t,t<k->dk f (t+1)≠0)->(∀c,c<=k->dk (oq f m) c=dk f c)/\ ∀a b,bk (oq f m) k a b=bk f k (tf m a) (tf m b)
 |0,_,_=>⟨fun c h=>by have:c=0:=(by omega);subst this;rfl,fun a b=>by rfl⟩
 |k+1,r,e=>by
  obtain⟨p,q⟩:=EP (m:=m) k (by omega) (fun t g=>e t (by omega));have o:dk (oq f m) (k+1)=dk f (k+1):=by grind [cB,acQ]
  have j: ∀t,t<k->dk (oq f m) (t+1)≠0:=fun t g=>by grind
  refine⟨fun c h=>?_,fun a b=>?_⟩
  ·grind
  have l:=Oh (f:=f) (k:=k) (fun t g=>e t (by omega));grind [sylv,tf,Int.eq_of_mul_eq_mul_left]
theorem CB (p:SymF f n) (j: ∀t,t<n->0<dk f (t+1)) (o:m+1<n):
  dk f (m+1)*dk (oq f m) (m+1)=dk f m*dk f (m+2)+bk f m (m+1) m*bk f m (m+1) m/\0<dk (oq f m) (m+1):=by
 have b: ∀t,t<n->dk f (t+1)≠0:=fun t g=>by grind
 obtain⟨v,l⟩:=EP (f:=f) (m:=m) m (aeJ _) (fun t g=>b t (by omega));have e:dk (oq f m) (m+1)=bk f m (m+1) (m+1):=by rw[cB,l,Pn]
 have s:=sylv f m (fun t g=>b t (by omega)) (m+1) (m+1);have c:=iJ p m (by omega) (fun t g=>b t (by omega)) m (m+1) (by omega) (by omega);rw[c,<- cB f (m+1)]at s;have key:dk f (m+1)*dk (oq f m) (m+1)=dk f m*dk f (m+2)+bk f m (m+1) m*bk f m (m+1) m:=by grind
 refine⟨key,?_⟩;have r:=j m (by omega);have u:=j (m+1) o;have q:0<dk f m:=by
  cases m with
  |zero=>rw[b8];omega
  |succ m=>grind
 have w:0<dk f m*dk f (m+2):=afa q u;have x:0<=bk f m (m+1) m*bk f m (m+1) m:=by
  rcases afF 0 (bk f m (m+1) m)with h|h
  ·exact aeQ h h
  exact ae9 h h
 rcases afL 0 (dk (oq f m) (m+1))with h|h
 ·exact h
 exfalso;have:=agK (afA r) h;omega
theorem rL (hs:SymF f n) (hp: ∀t,t<n->0<dk f (t+1)) (Z:m+1<n):
  (∀k,k<=n->k≠m+1->dk (oq f m) k=dk f k)/\(∀k a b,k<=m->bk (oq f m) k a b=bk f k (tf m a) (tf m b))/\ ∀k a b,m+1<k->k<=n->a<n->b<n->bk (oq f m) k a b=bk f k a b:=by
 have h: ∀t,t<n->dk f (t+1)≠0:=fun t w=>by grind
 have P:=EP (f:=f) (m:=m);obtain⟨h1,h2⟩:=P m (aeJ _) (fun t w=>h t (by omega));have av:=(CB hs hp Z).2;have O: ∀t,t<m+1->dk (oq f m) (t+1)≠0:=fun t w=>by
  grind
 have A:=Oh (f:=f) (k:=m) (fun t w=>h t (by omega));have ai:=h m (by omega);have aa:SymF (oq f m) n:=fun a v b B=>hs _ (un Z v) _ (un Z B)
 -- stage m + 2 for a, b behind m + 1
 have hz: ∀a b,m+1<a->m+1<b->bk (oq f m) (m+2) a b=bk f (m+2) a b:=fun a b v B=>by
  have F: ∀x y,dk f m*bk f (m+1) x y=dk f (m+1)*bk f m x y-bk f m x m*bk f m m y:=fun x y=>sylv f m (fun t w=>h t (by omega)) x y
  have G: ∀x y,dk f m*bk (oq f m) (m+1) x y=dk (oq f m) (m+1)*bk f m (tf m x) (tf m y)-bk f m (tf m x) (m+1)*bk f m (m+1) (tf m y):=fun x y=>by
   grind [sylv,Pn]
  have V:=sylv f (m+1) (fun t w=>h t (by omega)) a b;have W:=sylv (oq f m) (m+1) O a b;rw[cB f (m+1)]at V;rw[cB (oq f m) (m+1)]at W;have f11:=F (m+1) (m+1);have L:=F a b;have K:=F a (m+1);have J:=F (m+1) b;have C:=G (m+1) (m+1);have H:=G a b;have E:=G a (m+1);have D:=G (m+1) b;rw[Gn]at C;rw[Gm v,Gm B]at H;rw[Gm v,Gn]at E;rw[Gm B,Gn]at D;have ed:dk (oq f m) (m+1)=bk f m (m+1) (m+1):=by rw[cB,h2,Pn]
  have X:dk f (m+1)=bk f m m m:=cB f m;rw[ed]at C H E D W;rw[X]at f11 L K J V;have ab:bk f m (m+1) (m+1)≠0:=by omega
  have ac:bk f m m m≠0:=by omega
  generalize bk (oq f m) (m+2) a b=z' at*
  generalize bk f (m+2) a b=z at*
  generalize bk (oq f m) (m+1) (m+1) (m+1)=Q at*
  generalize bk (oq f m) (m+1) a b=T at*
  generalize bk (oq f m) (m+1) a (m+1)=S at*
  generalize bk (oq f m) (m+1) (m+1) b=R at*
  generalize bk f (m+1) (m+1) (m+1)=ad at*
  generalize bk f (m+1) a b=ag at*
  generalize bk f (m+1) a (m+1)=af at*
  generalize bk f (m+1) (m+1) b=ae at*
  generalize bk f m (m+1) (m+1)=c at*
  generalize bk f m m m=e at*
  generalize bk f m (m+1) m=l at*
  generalize bk f m m (m+1)=s at*
  generalize bk f m a b=q at*
  generalize bk f m a m=r at*
  generalize bk f m m b=u at*
  generalize bk f m a (m+1)=o at*
  generalize bk f m (m+1) b=j at*
  generalize dk f m=p at*
  have k1:p*p*(e*z)=e*(e*c*q-c*r*u-l*s*q+r*s*j+o*l*u-e*o*j):=by
   have:p*p*(e*z)=(p*ad)*(p*ag)-(p*af)*(p*ae):=by rw[V];grind
   rw[this,f11,L,K,J];grind
  have k2:p*p*(c*z')=c*(e*c*q-c*r*u-l*s*q+r*s*j+o*l*u-e*o*j):=by
   have:p*p*(c*z')=(p*Q)*(p*T)-(p*S)*(p*R):=by rw[W];grind
   rw[this,C,H,E,D];grind
  have k3:p*p*z=e*c*q-c*r*u-l*s*q+r*s*j+o*l*u-e*o*j:=
   af4 ac (by grind [Int.mul_left_comm])
  have k4:p*p*z'=e*c*q-c*r*u-l*s*q+r*s*j+o*l*u-e*o*j:=
   af4 ab (by grind [Int.mul_left_comm])
  exact af4 (agF A A) (k4.trans k3.symm)
 have Y:dk (oq f m) (m+2)=dk f (m+2):=by
  have s1:=sylv f m (fun t w=>h t (by omega)) (m+1) (m+1);have s2:=sylv (oq f m) m (fun t w=>O t (by omega)) (m+1) (m+1);grind [cB,Pn,Gn,Int.eq_of_mul_eq_mul_left]
 have N: ∀t,t<m+2->dk (oq f m) (t+1)≠0:=fun t w=>by
  grind
 have h0: ∀a b,a<n->b<n->bk (oq f m) (m+2) a b=bk f (m+2) a b:=fun a b v B=>by
  by_cases ah:a<m+2
  ·grind [kX]
  by_cases M:b<m+2
  ·rw[EO hs h (by omega) M v,iJ aa (m+2) (by omega) N a b v B,kX _ M]
  grind
 have I:=NU (f:=f) (g:=oq f m) (n:=n) (k0:=m+2) h N Y h0;refine⟨fun k U an=>?_,fun k a b U=>(P k U (fun t w=>h t (by omega))).2 a b,fun k a b ap U v B=>(I k (by omega) U).2 a b v B⟩;grind
end
end
end Go.Proofs.YtalmoejhjceflaaGreat
