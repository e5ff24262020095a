/-
  Part 1 of a proof (walks and plain facts).
-/
import Derived.Test.YtalmoejhjceflaaGreatRows
import Derived.WalkKit
import Derived.WalkSpells
import Derived.WalkLawsBesides
import Derived.Deep.QuietTactic
import Derived.BigQuiet
import Derived.Lib.Hide
import Derived.Deep.Draws
import Derived.Deep.AppendLies
import Derived.Laws.OwnMore
import Derived.ProofKit
import Derived.OpenShut
import Derived.ShutString
import Derived.ChangeOld
import Derived.Below
import Derived.SizedLaws
import Derived.Deep.OwnRows
import Derived.Deep.LoopGhost
import Derived.Deep.Light
import Derived.Deep.Cut
import Derived.Deep.CutRange
import Derived.CellFam
import Derived.BigGuard
import Derived.BigRegion
import Derived.Maps.AppendAt
import Derived.RegionTactic
import Derived.OwnWalk
set_option linter.all false
set_option maxRecDepth 100000
set_option maxHeartbeats 64000000
namespace Go.Proofs.YtalmoejhjceflaaGreat
open Go.RowKit Go.Proofs.Tryz
def aai:=@List.mem_of_getElem?.{0}
def aaj:=@And.intro
def aak:=@Option.map_eq_some_iff.{0,0}
def aal:=@Lib.hid
def aam:=@List.getElem?_map.{0,0}
def aan:=@Result.andThen_ok
def aao:=@List.getElem?_eq_some_iff.{0}
def aap:=@Nat.le_trans
def aaq:=@List.mem_singleton.{0}
def aar:=@Nat.le_refl
def aas:=@Nat.mul_le_mul_left
def aat:=@List.all_eq_true.{0}
def aau:=@List.mem_map.{0,0}
def aav:=@Nat.mul_le_mul_right
def aaw:=@List.getD_eq_getElem?_getD.{0}
def aax:=@Sem.run_bind
def aay:=@List.getElem?_eq_getElem.{0}
def aaz:=@List.take_of_length_le.{0}
def aaA:=@Nat.lt_of_lt_of_le
def aaB:=@List.getElem?_append_left.{0}
def aaC:=@List.ext_getElem?.{0}
def aaD:=@Array.getElem?_eq_some_iff.{0}
def aaE:=@List.getElem?_append_right.{0}
def aaF:=@Nat.pow_le_pow_left
def aaG:=@Option.bind_eq_some_iff.{0,0}
def aaH:=@Int.mul_le_mul_of_nonneg_left
def aaI:=@List.map_cons.{0,0}
def aaJ:=@Nat.pow_le_pow_right
def aaK:=@Int.eq_ofNat_of_zero_le
def aaL:=@List.length_replicate.{0}
def aaM:=@List.append_assoc.{0}
def aaN:=@List.map_congr_left.{0,0}
def aaO:=@Bool.and_eq_true
def aaP:=@List.length_cons.{0}
def aaQ:=@Nat.mod_lt
def aaR:=@List.mem_cons.{0}
def aaS:=@Int.mul_nonneg
def aaT:=@Nat.mul_le_mul
def aaU:=@Int.mul_nonneg_of_nonpos_of_nonpos
def aaV:=@List.length_append.{0}
def aaW:=@Nat.zero_le
def aaX:=@List.range_eq_range'
def aaY:=@List.map_nil.{0,0}
def aaZ:=@Bool.false_eq_true
def aa0:=@List.mem_cons_of_mem.{0}
def aa1:=@IntKind.wrap_u64
def aa2:=@Array.getElem?_append_left.{0}
def aa3:=@List.getElem?_set.{0}
def aa4:=@List.mem_cons_self.{0}
def aa5:=@Nat.add_zero
def aa6:=@Nat.zero_add
def aa7:=@Int.mul_le_mul
def aa8:=@List.append_nil.{0}
def aa9:=@List.mem_range
def aba:=@List.getElem?_replicate.{0}
def abb:=@List.range'_succ
def abc:=@Sem.run_pure
def abd:=@List.mem_iff_getElem?.{0}
def abe:=@List.map_append.{0,0}
def abf:=@List.mem_append.{0}
def abg:=@List.range_succ
def abh:=@Nat.pow_pos
def abi:=@Int.mul_le_mul_of_nonneg_right
def abj:=@List.not_mem_nil.{0}
def abk:=@Int.natAbs_mul
def abl:=@Nat.pow_succ
def abm:=@Option.isNone_none.{0}
def abn:=@Array.getElem?_append_right.{0}
def abo:=@List.getElem_of_mem.{0}
def abp:=@List.size_toArray.{0}
def abq:=@List.getElem?_set_ne.{0}
def abr:=@List.range'_append_1
def abs:=@List.drop_eq_getElem_cons.{0}
def abt:=@List.mem_or_eq_of_mem_set.{0}
def abu:=@Nat.div_div_eq_div_mul
def abv:=@Option.map_some.{0,0}
def abw:=@Classical.choose_spec.{1}
def abx:=@Nat.div_lt_iff_lt_mul
def aby:=@Nat.lt_trichotomy
def abz:=@Nat.le_mul_of_pos_right
def abA:=@List.getElem?_set_self.{0}
def abB:=@Nat.mul_comm
def abC:=@Nat.sub_self
def abD:=@Option.getD_some.{0}
def abE:=@Int.eq_of_mul_eq_mul_left
def abF:=@List.take_succ_cons.{0}
def abG:=@List.set_append_right.{0}
def abH:=@Int.ediv_nonneg
def abI:=@List.getElem?_cons_succ.{0}
def abJ:=@List.mem_of_mem_take.{0}
def abK:=@Int.tdiv_eq_ediv_of_nonneg
def abL:=@List.drop_zero.{0}
def abM:=@List.drop_succ_cons.{0}
def abN:=@Int.mul_ne_zero
def abO:=@List.length_nil.{0}
def abP:=@Nat.pow_add
def abQ:=@IntKind.wrap_u32
def abR:=@List.getElem?_drop.{0}
def abS:=@Nat.lt_of_le_of_lt
def abT:=@Int.le_of_lt
def abU:=@Int.le_total
def abV:=@List.map_map.{0,0,0}
def abW:=@List.eq_nil_of_length_eq_zero.{0}
def abX:=@List.mem_of_mem_drop.{0}
def abY:=@List.length_eq_zero_iff.{0}
def abZ:=@Int.lt_ediv_add_one_mul_self
def ab0:=@List.length_map.{0,0}
def ab1:=@List.nil_append.{0}
def ab2:=@Int.le_ediv_iff_mul_le
def ab3:=@Int.mul_zero
def ab4:=@List.drop_of_length_le.{0}
def ab5:=@Nat.add_comm
def ab6:=@Nat.mul_lt_mul_of_pos_right
def ab7:=@List.map_id.{0}
def ab8:=@Nat.mul_assoc
def ab9:=@Int.le_of_not_gt
def aca:=@List.cons_append.{0}
def acb:=@List.zipIdx_cons.{0}
def acd:=@Option.bind_some.{0,0}
def ace:=@Array.getElem?_map.{0,0}
def acf:=@List.all_replicate.{0}
def acg:=@List.getElem?_take.{0}
def ach:=@List.mem_replicate.{0}
def aci:=@List.pairwise_cons.{0}
def acj:=@Nat.lt_of_mul_lt_mul_right
def ack:=@List.length_singleton.{0}
def acl:=@List.ne_nil_of_length_pos.{0}
def acm:=@Bool.or_eq_true
def acn:=@Nat.div_add_mod
def aco:=@Nat.div_le_self
def acp:=@Int.lt_or_le
def acq:=@IntWalk.wrap64_in
def acr:=@List.drop_eq_nil_iff.{0}
def acs:=@List.length_range
def acu:=@List.replicate_succ'.{0}
def acv:=@Nat.div_lt_of_lt_mul
def acw:=@Function.comp_apply.{1,1,1}
def acx:=@List.replicate_succ.{0}
def acy:=@List.take_zero.{0}
def acz:=@Nat.mod_eq_of_lt
def acA:=@Int.le_refl
def acB:=@Int.zero_mul
def acC:=@Nat.le_mul_of_pos_left
def acD:=@Nat.le_of_lt
def acE:=@Ne.symm.{1}
def acF:=@Option.map_none.{0,0}
def acG:=@Array.getD_eq_getD_getElem?.{0}
def acH:=@World.ownsRow_nil
def acI:=@Addr.add_lit
def acJ:=@Below.heap_alloc
def acK:=@Int.ediv_le_self
def acL:=@List.drop_length.{0}
def acM:=@List.flatMap_nil.{0,0}
def acN:=@List.length_take.{0}
def acO:=@Nat.div_eq_of_lt
def acP:=@Nat.le_of_not_lt
def acQ:=@Nat.lt_or_ge
def acR:=@Int.le_of_mul_le_mul_left
def acS:=@Array.getElem?_replicate.{0}
def acT:=@Int.mul_tdiv_cancel_left
def acU:=@List.nodup_cons.{0}
def acV:=@List.zipIdx_nil.{0}
def acW:=@Nat.min_eq_left
def acX:=@Nat.two_pow_pos
def acY:=@Int.mul_nonpos_of_nonneg_of_nonpos
def acZ:=@World.ownsRow_made
def ac0:=@List.getElem?_cons_zero.{0}
def ac1:=@IntWalk.i64_in
def ac2:=@List.flatMap_cons.{0,0}
def ac3:=@List.take_succ_eq_append_getElem.{0}
def ac4:=@Array.getElem?_setIfInBounds_ne.{0}
def ac5:=@Nat.le_div_iff_mul_le
def ac6:=@List.eq_nil_iff_forall_not_mem.{0}
def ac7:=@List.map_toArray.{0,0}
def ac8:=@World.rowIs_made
def ac9:=@Int.mul_assoc
def ada:=@Int.ediv_emod_unique
def adb:=@Nat.add_mul
def adc:=@World.cell?_alloc_lt
def ade:=@Int.mul_ediv_mul_of_pos_left
def adf:=@Int.mul_eq_zero
def adg:=@Array.length_toList.{0}
def adh:=@List.replicate_zero.{0}
def adi:=@Nat.div_mul_le_self
def adj:=@Int.mul_comm
def adk:=@Below.heap_setCell
def adl:=@Int.emod_lt_of_pos
def adm:=@List.append_of_mem.{0}
def adn:=@List.mem_filterMap.{0,0}
def ado:=@List.takeWhile_cons_of_pos.{0}
def adp:=@Classical.byContradiction
def adq:=@List.mem_of_find?_eq_some.{0}
def adr:=@Nat.le_of_mul_le_mul_left
def ads:=@World.cell?_setCell_other
def adt:=@Int.natAbs_add_le
def adu:=@Int.one_mul
def adv:=@List.filter_congr.{0}
def adw:=@List.isEmpty_cons.{0}
def adx:=@List.take_add_one.{0}
def ady:=@Nat.mul_left_comm
def adz:=@Nat.mul_one
def adA:=@Nat.mul_pos
def adB:=@World.rowIs_alloc
def adC:=@DataW.trod_lt
def adD:=@Int.mul_ediv_cancel_left
def adE:=@Nat.add_assoc
def adF:=@DataW.trod_slice
def adG:=@List.any_eq_true.{0}
def adH:=@List.mem_flatMap.{0,0}
def adI:=@List.take_length.{0}
def adJ:=@Nat.le_add_right
def adK:=@Nat.lt_succ_self
def adL:=@Nat.succ_pred_eq_of_pos
def adM:=@WalkArith.wf_i64
def adN:=@Int.add_zero
def adO:=@List.filter_eq_nil_iff.{0}
def adP:=@Nat.zero_mul
def adQ:=@World.frozen?_of_block
def adR:=@Int.emod_nonneg
def adS:=@Nat.mul_add_div
def adT:=@Int.emod_add_mul_ediv
def adU:=@Int.le_ediv_of_mul_le
def adV:=@Lib.run_eql_slice_nil
def adW:=@List.getElem?_eq_none.{0}
def adY:=@Array.getElem_of_mem.{0}
def adZ:=@Classical.not_forall.{1}
def ad0:=@Int.mul_pos
def ad1:=@List.getElem?_mapIdx.{0,0}
def ad2:=@Maps.int_keyed
def ad3:=@Nat.add_le_add_right
def ad4:=@Nat.pow_lt_pow_right
def ad5:=@Int.ediv_mul_cancel
def ad6:=@List.filter_eq_self.{0}
def ad7:=@List.length_flatMap.{0,0}
def ad8:=@Bool.false_or
def ad9:=@Bool.or_false
def aea:=@Bool.true_and
def aeb:=@Nat.lt_irrefl
def aec:=@Below.trod
def aee:=@Int.sub_eq_add_neg
def aef:=@List.filter_append.{0}
def aeg:=@List.map_replicate.{0,0}
def aeh:=@List.set_cons_zero.{0}
def aei:=@Nat.mul_div_cancel
def aej:=@Nat.mul_right_comm
def aen:=@Int.ofNat_le
def aeo:=@List.map_set.{0,0}
def aer:=@Nat.pow_zero
def aez:=@Nat.mul_add
def aeA:=@Nat.one_mul
abbrev FF:=Nat->Nat->Int
variable {w W:World} {n m j:Nat} {b:TypeId} {c:List Int} {e:Value} {f:List Value} {g:Nat->Nat->Value} {h:Option Addr} {l:Nat->Nat} {o:List (List Int)} {x:Int} {p:Nat->Value} {q:Addr} {r:Bool}
variable {s:FF}
def Ext (w b:World):Prop:=Below w.heap.size w b
theorem Ext.refl (w:World):Ext w w:=Below.refl _ _
theorem Ext.trans {a:World} (h:Ext a w) (k:Ext w W):Ext a W:=Below.trans h (Below.mono k h.size)
theorem Ext.drew {a:World} (h:Ext a w):Ext a w.drew:=Below.drew h
theorem Ext.drewN {a:World} (h:Ext a w) (n:Nat):Ext a (w.drewN n):=⟨h.os,h.tape,h.output,h.size,h.block⟩
theorem Ext.alloc {a:World} (h:Ext a w) (o:Obj):Ext a (w.alloc o):=Below.alloc h h.size o
theorem Ext.setCell {a:World} (h:Ext a w) (c:a.heap.size<=q.block) (u:Value):Ext a (w.setCell q u):=Below.setCell h c u
theorem Ext.grown {a:World} {row:Option Nat} (h:Ext a w) (e:w.grownBy W row) (f: ∀k,row=some k->a.heap.size<=k):Ext a W:=
 Below.grown h e h.size f
theorem Ext.cell {a:World} (h:Ext a w) (f:a.cell? q=some e):w.cell? q=some e:=by
 have c:q.block<a.heap.size:=by
  grind [World.cell?]
 rw[Below.cell h c];exact f
theorem Ext.size {a:World} (h:Ext a w):a.heap.size<=w.heap.size:=Below.size h
theorem mj {p:Addr} (b:w.cell? p=some e):p.block<w.heap.size:=by
 grind [World.cell?]
def Rd (w:World) (A:Option Addr) (e:List Value):Prop:=
 e≠[]-> ∃b c,A=some ⟨b,c,none⟩/\ ∀i x,e[i]?=some x->w.cell? ⟨b,c+i,none⟩=some x
theorem Rd.nil (w:World) (A:Option Addr):Rd w A []:=fun h=>absurd rfl h
theorem Rd.ext (c:Rd w h f) (k:Ext w W):Rd W h f:=fun e=>by
 obtain⟨b,g,rfl,j⟩:=c e;exact⟨b,g,rfl,fun i x l=>k.cell (j i x l)⟩
theorem Rd.at_ (c:Rd w h f) {k:Nat} (l:f[k]?=some e):
  ∃b g,h=some ⟨b,g,none⟩/\w.cell? ⟨b,g+k,none⟩=some e:=by
 obtain⟨b,g,rfl,j⟩:=c (by grind);grind
def RdI (k:IntKind) (w:World) (A:Option Addr) (b:List Int):Prop:=Rd w A (b.map (Value.int k))
theorem RdI.nil (k:IntKind) (w:World) (A:Option Addr):RdI k w A []:=Rd.nil w A
theorem RdI.ext {k:IntKind} (b:RdI k w h c) (e:Ext w W):RdI k W h c:=Rd.ext b e
theorem RdI.at_ {k:IntKind} (e:RdI k w h c) {i:Nat} (g:c[i]?=some x):
  ∃b f,h=some ⟨b,f,none⟩/\w.cell? ⟨b,f+i,none⟩=some (.int k x):=Rd.at_ e (by simp[g])
def VK (k:IntKind) (w:World) (v:Value) (b:List Int):Prop:=
 ∃B c,v= .slice B b.length c/\b.length<=c/\b.length<=9223372036854775807/\RdI k w B b
theorem VK.ext {k:IntKind} (h:VK k w e c) (f:Ext w W):VK k W e c:=by
 obtain⟨B,b,g,j,l,m⟩:=h;exact⟨B,b,g,j,l,m.ext f⟩
def oP (k:IntKind) (w:World) (A:Option Addr) (c:List (List Int)):Prop:=
 c≠[]-> ∃b e,A=some ⟨b,e,none⟩/\ ∀i r,c[i]?=some r-> ∃v,w.cell? ⟨b,e+i,none⟩=some v/\VK k w v r
theorem oP.nil (k:IntKind) (w:World) (A:Option Addr):oP k w A []:=fun h=>absurd rfl h
theorem oP.ext {k:IntKind} (c:oP k w h o) (e:Ext w W):oP k W h o:=fun f=>by
 obtain⟨b,g,rfl,m⟩:=c f;exact⟨b,g,rfl,fun i r n=>by obtain⟨v,j,l⟩:=m i r n;exact⟨v,e.cell j,l.ext e⟩⟩
theorem oP.at_ {k:IntKind} (f:oP k w h o) {i:Nat} (l:o[i]?=some c):
  ∃b g B e,h=some ⟨b,g,none⟩/\w.cell? ⟨b,g+i,none⟩=some (.slice B c.length e)/\c.length<=e/\c.length<=9223372036854775807/\RdI k w B c:=by
 obtain⟨b,g,rfl,j⟩:=f (by grind);obtain⟨v,m,B,e,rfl,n,p,q⟩:=j i c l;grind
theorem getElem?_of_lt {b:Type} {l:List b} {k:Nat} (h:k<l.length): ∃x,l[k]?=some x:=⟨l[k],aay h⟩
theorem gB {k:IntKind} {a:Int} (h:a=x):Ending.returned (.int k a)= .returned (.int k x):=by rw[h]
theorem fG {a:Bool} (h:a=r):Ending.returned (.bool a)= .returned (.bool r):=by rw[h]
section
open Go.ChangeShapes Go.WideShapes Go.ChangeAt Go.RowKit
theorem Tryz.ownKnob_:ownKnob prog.godebug=none:=by kernel_rfl
theorem Tryz.laidOut_:laidOutB prog=true:=by kernel_rfl
theorem D2 {H:Type} {enc:TypeId×Value->H} {P:Program} {base:Nat} {held:Bool} {e:TypeId} {k:IntKind} {a:Option Addr} {len cap:Nat} {d:DataW H} {p:List MemPlace} (F:P.underlying b=some (.slice e)) (z:P.underlying e=some (.int k)) (v:P.cellsOf e=1) (h:DataW.Trod enc P w base (fun _=>true) held b (.slice a len cap) d p):
  ∃o:List Int,len=o.length/\len<=cap/\cap<=maxLen/\RdI k w a o/\(∀n∈o,(Lit.int k n).wf=true)/\((d= .nil/\len=0)\/ ∃j,d= .slice (lits k o) j/\j.length=cap-len):=by
 obtain⟨u,A⟩:=h;rcases open_ints F z v A with⟨g,s⟩|⟨x,l,c,o,g,_,B,C,G,s,m,r⟩
 ·simp[Value.cells]at g;obtain⟨rfl,rfl,rfl⟩:=g;exact⟨[],rfl,aar _,aaW _,RdI.nil _ _ _,by simp,.inl ⟨(Prod.mk.inj s).1,rfl⟩⟩
 simp[Value.cells]at g;obtain⟨rfl,rfl,rfl⟩:=g;simp at G;refine⟨o.take len,by simp;omega,B,C,fun E=>?_,fun n D=>r n (abJ D),.inr ⟨_,(Prod.mk.inj s).1,by grind [lits]⟩⟩;have q:0<o.length:=by
  grind
 obtain⟨f,I,rfl,y⟩:=ints_at m q;grind
theorem MC (h:(Lit.int .i64 x).wf=true): -9223372036854775808<=x/\x<=9223372036854775807:=by
 simp_all[Go.bounds_i64]
theorem E8 (h:(Lit.int .i8 x).wf=true): -128<=x/\x<=127:=by
 grind [Lit.wf,IntKind.min,IntKind.max,IntKind.signed,IntKind.bits]
theorem Rj (h:(Lit.int .u8 x).wf=true):0<=x/\x<=255:=by
 simp_all[Go.bounds_u8]
end
section
open Go.ChangeShapes Go.WideShapes Go.ChangeAt Go.RowKit
theorem KC {a:Addr} (h:w.cells? n a 1=some f): ∃c,f=[c]/\w.cell? a=some c:=by
 have b:a.add 0=a:=by rfl
 unfold World.cells? at h;split at h
 ·simp only[abg,List.range_zero,ab1,List.mapM_cons,List.mapM_nil,b]at h;cases e:w.cell? a with
  |none=>grind
  |some c=>grind
 cases h
theorem xd {H:Type} {q:TypeId×Value->H} {P:Program} {e z:TypeId} {k:IntKind} {a:Option Addr} {len cap:Nat} {d:DataW H} {p:List MemPlace} (ht:P.underlying b=some (.slice e)) (K:P.underlying e=some (.slice z)) (C:P.underlying z=some (.int k)) (Y:P.cellsOf e=1) (B:P.cellsOf z=1) (h:DataW.Trod q P w n (fun _=>true) r b (.slice a len cap) d p):
  ∃M:List (List Int),len=M.length/\len<=cap/\cap<=maxLen/\oP k w a M/\ ∀j∈M,∀g∈j,(Lit.int k g).wf=true:=by
 obtain⟨I,Z⟩:=h;rcases adF ht Z with⟨o,hx⟩|⟨x,l,c,elems,O,g,_,o,hx,hb,hl,hm,N,D,ac,ab⟩
 ·simp[Value.cells]at o;obtain⟨rfl,rfl,rfl⟩:=o;exact⟨[],rfl,aar _,aaW _,oP.nil _ _ _,by simp⟩
 simp[Value.cells]at o;obtain⟨rfl,rfl,rfl⟩:=o;have E: ∀i,i<len-> ∃j:List Int,(∃v,w.cell? (x.add i)=some v/\VK k w v j)/\ ∀g∈j,(Lit.int k g).wf=true:=fun i L=>by
  have A:=D i L;rw[Y,adz]at A;obtain⟨y,hy⟩: ∃y,elems[i]?=some y:=⟨_,aay (by omega)⟩;rw[hy,aaG]at A;obtain⟨c1,V,J⟩:=A;obtain⟨v,rfl,u⟩:=KC V;rcases adF K J with⟨m,_⟩|⟨x2,l2,Q,_,_,_,_,m,_⟩
  ·simp at m;subst m;exact⟨[],⟨_,u,none,0,rfl,by simp,by simp,RdI.nil _ _ _⟩,by simp⟩
  simp at m;subst m;obtain⟨zs,R,g2,g3,S,T,_⟩:=D2 (enc:=q) (base:=n) (held:=r) (d:=y.1) (p:=y.2) K C B ⟨g,by simpa[Value.cells] using J⟩;refine⟨zs,⟨_,u,some x2,Q,by rw[R],by omega,?_,S⟩,T⟩;grind [maxLen]
 let F:Nat->List Int:=fun i=>if h:i<len then Classical.choose (E i h)else[]
 have X: ∀i,i<len->(∃v,w.cell? (x.add i)=some v/\VK k w v (F i))/\ ∀g∈F i,(Lit.int k g).wf=true:=fun i L=>by
  grind
 refine⟨(List.range len).map F,by simp,hl,hm,fun aa=>?_,fun j hr=>?_⟩
 ·have U:0<len:=by
   grind
  obtain⟨f,ad,s⟩:=x;obtain⟨⟨v,u,_⟩,_⟩:=X 0 U;have G:s=none:=by simpa[Addr.add] using World.cell?_spot u
  grind [Go.WideShapes.add_plain]
 grind
end
theorem cB (h:w.rowIs n b m p) (e:Ext w W):W.rowIs n b m p:=h.of_block (e.block n h.lt)
theorem nS (h:w.rowIs n b m p) (k:Nat):(w.drewN k).rowIs n b m p:=h
theorem RdI.of_row {k:IntKind} (h:w.rowIs n b m p) (o:c.length<=m) (j: ∀i z,c[i]?=some z->p i= .int k z):
  RdI k w (some ⟨n,0,none⟩) c:=fun _=>⟨n,0,rfl,fun i x e=>by
 rw[aam]at e;cases g:c[i]? with
 |none=>grind
 |some z=>
  rw[g]at e;have l:i<c.length:=by
   grind
  rw[aa6,h.cell (by omega),j i z g];grind⟩
structure UN (w wr:World) (tr te:TypeId) (n m r:Nat) (g:Nat->Nat) (Z:Nat->Nat->Value):Prop where
 ext:Ext w wr
 top:wr.rowIs w.heap.size tr n (fun j=>if j<r then .slice (some ⟨g j,0,none⟩) m m else .slice none 0 0)
 gt: ∀j,j<r->w.heap.size<g j
 done: ∀j,j<r->wr.rowIs (g j) te m (Z j)
structure RL (w wi:World) (tr te:TypeId) (n m r c:Nat) (g:Nat->Nat) (Z:Nat->Nat->Value) (z:Value):Prop where
 ext:Ext w wi
 top:wi.rowIs w.heap.size tr n (fun j=>if j<r+1 then .slice (some ⟨g j,0,none⟩) m m else .slice none 0 0)
 gt: ∀j,j<r+1->w.heap.size<g j
 ne: ∀j,j<r->g j≠g r
 done: ∀j,j<r->wi.rowIs (g j) te m (Z j)
 cur:wi.rowIs (g r) te m (fun i=>if i<c then Z r i else z)
theorem Lk (w:World) (tr c:TypeId) (n m:Nat) (g:Nat->Nat) (Z:Nat->Nat->Value):UN w (w.alloc (.cells (madeCells #[.slice none 0 0] n) tr)) tr c n m 0 g Z:=
 ⟨(Ext.refl _).alloc _,(ac8 w _ n tr).congr (fun j _=>by simp),fun j b=>absurd b (Nat.not_lt_zero _),fun j b=>absurd b (Nat.not_lt_zero _)⟩
theorem UN.lt {tr:TypeId} (h:UN w W tr b n m j l g):w.heap.size<W.heap.size:=h.top.lt
theorem Lj {tr:TypeId} (z:Value) (h:UN w W tr b n m j l g):
  RL w ((W.alloc (.cells (madeCells #[z] m) b)).setCell ⟨w.heap.size,j,none⟩ (.slice (some ⟨W.heap.size,0,none⟩) m m)) tr b n m j 0 (fun c=>if c=j then W.heap.size else l c) g z:=by
 have s:=h.lt;have o:=ac8 W z m b;refine⟨(h.ext.alloc _).setCell (aar _) _,((h.top.alloc _).set j _).congr (fun c _=>?_),fun c f=>?_,fun c f=>?_,fun c f=>?_,?_⟩
 ·grind
 ·show w.heap.size<if c=j then _ else _
  by_cases e:c=j
  ·grind
  rw[if_neg e];exact h.gt c (by omega)
 ·have p:(if c=j then W.heap.size else l c)=l c:=if_neg (by omega);have q:(if j=j then W.heap.size else l j)=W.heap.size:=if_pos rfl;show(if c=j then W.heap.size else l c)≠(if j=j then W.heap.size else l j);rw[p,q];have:=(h.done c f).lt;omega
 ·have p:(if c=j then W.heap.size else l c)=l c:=if_neg (by omega);show World.rowIs _ (if c=j then W.heap.size else l c) _ _ _;rw[p];exact((h.done c f).alloc _).setOther (by have:=h.gt c f;grind) _
 show World.rowIs _ (if j=j then W.heap.size else l j) _ _ _;rw[if_pos rfl];exact(o.setOther (by grind) _).congr (fun i _=>by simp)
theorem O7 {tr:TypeId} {c:Nat} {v:Value} (h:RL w W tr b n m j c l g e) (p:v=g j c):
  RL w (W.setCell ⟨l j,c,none⟩ v) tr b n m j (c+1) l g e:=by
 subst p;have q:=h.gt j (by omega);refine⟨h.ext.setCell (by grind) _,h.top.setOther (by grind) _,h.gt,h.ne,fun f o=>(h.done f o).setOther (h.ne f o) _,(h.cur.set c _).congr (fun i _=>?_)⟩;grind
theorem RL.drew {tr:TypeId} {c:Nat} (h:RL w W tr b n m j c l g e):RL w W.drew tr b n m j c l g e:=
 ⟨h.ext.drew,h.top.drew,h.gt,h.ne,fun f o=>(h.done f o).drew,h.cur.drew⟩
theorem O6 {tr:TypeId} {c:Nat} (h:RL w W tr b n m j c l g e) (p:m<=c):UN w W tr b n m (j+1) l g:=
 ⟨h.ext,h.top,h.gt,fun o s=>by
  by_cases f:o=j
  ·subst f;exact h.cur.congr (fun i q=>by grind)
  exact h.done o (by omega)⟩
def mB (n m:Nat) (Z:FF):List (List Int):=(List.range n).map fun i=>(List.range m).map fun j=>Z i j
theorem oV (n m:Nat) (Z:FF):(mB n m Z).length=n:=by simp[mB]
theorem Lf {i:Nat} (h:(mB n m s)[i]?=some c):i<n/\c=(List.range m).map fun j=>s i j:=by
 grind [mB]
theorem Gl {i:Nat} (b:i<n) (c:j<m):((mB n m s).getD i []).getD j 0=s i j:=by
 grind [mB]
theorem UN.rd {tr:TypeId} {k:IntKind} (h:UN w W tr b n m j l (fun i c=> .int k (s i c))) (t:n<=j) (q:m<=9223372036854775807):
  oP k W (some ⟨w.heap.size,0,none⟩) (mB n m s):=fun _=>by
 refine⟨w.heap.size,0,rfl,fun i row f=>?_⟩;obtain⟨o,rfl⟩:=Lf f;have e:((List.range m).map fun c=>s i c).length=m:=by simp
 refine⟨.slice (some ⟨l i,0,none⟩) m m,?_,some ⟨l i,0,none⟩,m,by rw[e],by omega,by omega,fun _=>⟨l i,0,rfl,fun c x u=>?_⟩⟩
 ·have:=h.top.cell o;grind
 have p:c<m:=by
  grind
 rw[aa6,(h.done i (by omega)).cell p];grind
section
section
variable {P:Program} (w:World)
theorem xC (b:Nat) (t m e:TypeId) (i:TypeInfo) (size:Nat) (l:P.underlying t=some (.slice e)) (j:P.info? e=some i)
  (v:Value) (n:Nat) (o:List Value) (f:w.ownsRow b e size v n o) (c:Nat):(Builtin.append_ #[t,t] m #[v,.slice none 0 c]).run P w= .ok v w:=by
 rcases f.2 with⟨rfl,rfl⟩|⟨g,cap,cur,rfl,_,_,h,_⟩
 ·simp[Builtin.append_,run_underlying l,sizeOf,typeInfo,j,Builtin.lenOf,Builtin.firstCells]
 simp[Builtin.append_,run_underlying l,sizeOf,typeInfo,j,Builtin.lenOf,Builtin.firstCells,h,storeCells]
theorem ld (g:Nat) (t H e:TypeId) (z:Value) (size bytes:Nat) (L:P.underlying t=some (.slice e)) (p:(P.info? e).map (fun i=>(i.zero,i.size,i.bytes))=some (some z,size,bytes))
  (B:z.cells.size=size) (q:0<size)
  (v:Value) (n:Nat) (E:List Value) (o:w.ownsRow g e size v n E)
  (A:Option Addr) (m c:Nat) (f:List Value) (V:Rd w A f) (T:f.length=m*size) (O: ∀u∈f,u.oneCell'=true)
  (s:n+m<=maxLen) (h:(n+m)*bytes<=140737488355328) (l:g<=w.heap.size):
  ∃r D,(Builtin.append_ #[t,t] H #[v,.slice A m c]).run P w= .ok r D/\D.ownsRow g e size r (n+m) (E++f)/\w.grownBy D v.ownBlock/\(r.ownBlock=v.ownBlock\/r.ownBlock=some w.heap.size):=by
 obtain⟨i,J,C⟩:=aak.1 p;simp only[Prod.mk.injEq]at C;obtain⟨M,K,I⟩:=C;by_cases x:f=[]
 ·subst x;have U:m=0:=by
   rcases Nat.eq_zero_or_pos m with F|F
   ·exact F
   have:=adA F q;grind
  subst U;rcases A with _|N
  ·grind [xC,World.grownBy.refl]
  obtain⟨r,D,y,Q,R,_,S⟩:=run_append_own_at (P:=P) w g t H e i z size bytes L J M K I B q v n E o N 0 c [] (by simp) (by simp) (by simp) s h l;grind
 obtain⟨b,G,rfl,W⟩:=V x;obtain⟨r,D,y,Q,R,_,S⟩:=run_append_own_at (P:=P) w g t H e i z size bytes L J M K I B q v n E o ⟨b,G,none⟩ m c f T (fun j u X=>by
  grind [Addr.add]) O s h l
 grind
theorem iI {B:Array Oper} {j:List Oper} {o:Oper} {a:Act} {Q:Exit->Act->World->Prop} (E:o.guard=none) (s x:Operand) (t:TypeId)
  (R:o.op= .call {callee:= .builtin .append,args:= #[s,x],argTypes:= #[t,t]})
  (f:Nat) (e:TypeId) (z:Value) (size bytes:Nat) (U:P.underlying t=some (.slice e)) (p:(P.info? e).map (fun i=>(i.zero,i.size,i.bytes))=some (some z,size,bytes))
  (G:z.cells.size=size) (F:0<size)
  (v:Value) (n:Nat) (H:List Value) (T:a.eval s=v) (r:w.ownsRow f e size v n H)
  (A:Option Addr) (m c:Nat) (b:List Value) (V:a.eval x= .slice A m c) (S:Rd w A b) (O:b.length=m*size) (I: ∀u∈b,u.oneCell'=true)
  (D:n+m<=maxLen) (g:(n+m)*bytes<=140737488355328) (l:f<=w.heap.size)
  (h: ∀q C,C.ownsRow f e size q (n+m) (H++b)->w.grownBy C v.ownBlock->(q.ownBlock=v.ownBlock\/q.ownBlock=some w.heap.size)->wpList P B Q j (a.put o.dst q) C):wpList P B Q (o::j) a w:=by
 refine wpList_plain E fun K N=>?_
 obtain⟨q,C,y,J,L,M⟩:=ld (P:=P) w f t o.type e z size bytes U p G F v n H r A m c b S O I D g l;unfold Oper.wp execOp;simp only[R,resolve,invoke,builtin,aax,abc,aan,ac7,aaI,aaY,T,V,y];exact N _ _ (h q C J L M)
end
theorem qV {k:IntKind}: ∀u∈c.map (Value.int k),u.oneCell'=true:=by
 intro u b;obtain⟨z,_,rfl⟩:=aau.1 b;rfl
theorem LD (h:w.ownsRow n b 1 e m f) (y:0<m):
  ∃g cap c,e= .slice (some ⟨g,0,none⟩) m cap/\m<=cap/\n<=g/\w.rowIs g b cap c/\ ∀i x,f[i]?=some x->c i=x:=by
 obtain⟨t,o⟩:=h;rcases o with⟨l,r⟩|⟨g,cap,cur,l,p,q,j,u,z,A⟩
 ·omega
 refine⟨g,cap,fun i=>cur[i]?.getD undef,l,j,p,⟨cur,q,by omega,fun i s=>?_⟩,fun i x B=>?_⟩
 ·grind
 grind
theorem D3 {size:Nat} (h:w.ownsRow n b size e m f) (k:Ext w W):W.ownsRow n b size e m f:=by
 obtain⟨p,j⟩:=h;refine⟨p,?_⟩;rcases j with j|⟨g,cap,cur,q,l,o,r⟩
 ·grind
 refine .inr ⟨g,cap,cur,q,l,?_,r⟩;have c:g<w.heap.size:=by
  grind
 rw[k.block g c];exact o
theorem zo {c:World} {size:Nat} (g:w.grownBy c e.ownBlock) (l:w.ownsRow n b size e m f) (h:Ext W w) (o:W.heap.size<=n):Ext W c:=
 h.grown g (fun k j=>by have:=(l.lt k j).1;omega)
theorem xe (h:w.ownsRow n b 2 e m f) (y:0<m):
  ∃g cap c,e= .slice (some ⟨g,0,none⟩) m cap/\m<=cap/\cap<=maxLen/\n<=g/\w.rowIs g b (cap*2) c/\ ∀i x,f[i]?=some x->c i=x:=by
 obtain⟨u,o⟩:=h;rcases o with⟨l,s⟩|⟨g,cap,cur,l,p,q,j,r,z,A⟩
 ·omega
 refine⟨g,cap,fun i=>cur[i]?.getD undef,l,j,r,p,⟨cur,q,by omega,fun i t=>?_⟩,fun i x B=>?_⟩
 ·grind
 grind
end
def dK (r:Nat->Int):(List Nat->Int)->List Nat->Int
 |_,[]=>0
 |f,c::b=>r c*f b-dK r (fun l=>f (c::l)) b
theorem Bc (a b:Int) (r s:Nat->Int): ∀(e:List Nat) (f:List Nat->Int),dK (fun c=>a*r c+b*s c) f e=a*dK r f e+b*dK s f e
 |[],f=>by simp[dK]
 |c::e,f=>by
  simp only[dK,Bc a b r s e];grind
theorem wJ (r:Nat->Int) (a b:Int): ∀(e:List Nat) (f g:List Nat->Int),dK r (fun l=>a*f l+b*g l) e=a*dK r f e+b*dK r g e
 |[],f,g=>by simp[dK]
 |c::e,f,g=>by
  simp only[dK,wJ r a b e];grind
theorem DH (r:Nat->Int): ∀(b:List Nat),dK r (fun _=>0) b=0
 |[]=>rfl
 |c::b=>by simp[dK,DH r b]
theorem wI (r s:Nat->Int): ∀(b:List Nat) (f:List Nat->Int),dK r (dK s f) b= - dK s (dK r f) b
 |[],f=>by simp[dK]
 |c::b,f=>by
  have e:(fun l=>dK s f (c::l))=fun l=>s c*f l+(-1)*dK s (fun m=>f (c::m)) l:=by grind [dK]
  have g:(fun l=>dK r f (c::l))=fun l=>r c*f l+(-1)*dK r (fun m=>f (c::m)) l:=by grind [dK]
  have h:=wI r s b (fun m=>f (c::m));rw[dK,dK,e,g,wJ,wJ];omega
theorem WQ (r:Nat->Int) (b:List Nat) (f:List Nat->Int):dK r (dK r f) b=0:=by
 grind [wI]
theorem oy {r:Nat->Int}: ∀(b:List Nat) (f:List Nat->Int),(∀c∈b,r c=0)->dK r f b=0
 |[],_,_=>rfl
 |c::b,f,h=>by
  rw[dK,oy b _ (fun c e=>h c (aa0 _ e)),h c aa4];simp
def om (R:FF):Nat->List Nat->Int
 |0=>fun _=>1
 |k+1=>dK (R k) (om R k)
def lg:Nat->List Nat
 |0=>[]
 |k+1=>k::lg k
theorem jp {k:Nat} (h:n∈lg k):n<k:=by
 induction k with
 |zero=>simp[lg]at h
 |succ k b=>
  rcases aaR.1 h with rfl|h
  ·omega
  grind
def bk (R:FF) (k i j:Nat):Int:=dK (R i) (om R k) (j::lg k)
def dk (R:FF) (k:Nat):Int:=om R k (lg k)
theorem cu (R:FF):dk R 0=1:=rfl
theorem cd (R:FF) (k:Nat):dk R (k+1)=bk R k k k:=rfl
theorem dc (R:FF) (i j:Nat):bk R 0 i j=R i j:=by simp[bk,dK,om,lg]
theorem Bx (R:FF) {k:Nat} (h:n<k) (b:List Nat):dK (R n) (om R k) b=0:=by
 induction k generalizing b with
 |zero=>omega
 |succ k c=>
  by_cases e:n=k
  ·subst e;exact WQ _ _ _
  rw[om,wI,show dK (R n) (om R k)=fun _=>0 from funext (c (by omega)),DH];rfl
theorem mg (R:FF) {k:Nat} (h:n<k) (j:Nat):bk R k n j=0:=Bx R h _
theorem elim (R:FF): ∀k,(∀t,t<k->dk R (t+1)≠0)-> ∃N:Int,N≠0/\ ∀v:Nat->Int,∃b:Nat->Int,(∀c,c<k->b c=0)/\
  ∀m,k<=m-> ∀e,dK b (om R m) e=N*dK v (om R m) e
 |0,_=>⟨1,by omega,fun v=>⟨v,fun c h=>by omega,fun m _ e=>by omega⟩⟩
 |k+1,n=>by
  obtain⟨N,l,j⟩:=elim R k (fun t x=>n t (by omega));obtain⟨r,p,o⟩:=j (R k);have q:r k*dk R k=N*dk R (k+1):=by
   grind [dK,oy,jp,cd,bk,dk]
  have f:r k≠0:=by
   grind [Int.mul_eq_zero]
  refine⟨r k*N,abN f l,fun v=>?_⟩;obtain⟨b,s,g⟩:=j v;refine⟨fun c=>r k*b c+(- b k)*r c,fun c u=>?_,fun m w e=>?_⟩
  ·grind
  rw[Bc,g m (by omega),o m (by omega),Bx R (show k<m by omega)];grind
theorem sylv (R:FF) (k:Nat) (z: ∀t,t<k->dk R (t+1)≠0) (i j:Nat):
  dk R k*bk R (k+1) i j=dk R (k+1)*bk R k i j-bk R k i k*bk R k k j:=by
 obtain⟨N,p,q⟩:=elim R k z;obtain⟨v,e,hv1⟩:=q (R i);obtain⟨u,hu0,hu1⟩:=q (R k);have b: ∀{x:Nat->Int} {t:Nat},(∀c,c<k->x c=0)->(∀m,k<=m-> ∀o,dK x (om R m) o=N*dK (R t) (om R m) o)-> ∀j,N*bk R k t j=x j*dk R k:=by
  grind [bk,dK,oy,jp,dk]
 have C:=b e hv1;have D:=b hu0 hu1;have s:dK v (dK u (om R k)) (j::k::lg k)=N*N*bk R (k+1) i j:=by
  have r:dK u (om R k)=fun l=>N*dK (R k) (om R k) l+0*0:=by grind
  have A:dK v (dK u (om R k)) (j::k::lg k)=N*dK v (om R (k+1)) (j::k::lg k):=by
   rw[r];have:=wJ v N 0 (j::k::lg k) (dK (R k) (om R k)) (fun _=>0);grind [om]
  grind [bk,lg]
 have w:dK v (dK u (om R k)) (j::k::lg k)=(v j*u k-v k*u j)*dk R k:=by
  have g: ∀{x:Nat->Int} (f:List Nat->Int),(∀c,c<k->x c=0)->dK x f (lg k)=0:=fun f h=>oy (lg k) f (fun c y=>h c (jp y))
  simp only[dK,g _ e,g _ hu0,dk];grind
 have B:=s.symm.trans w;have n:N*N≠0:=abN p p;apply abE n;grind [cd]
def Ay (x:List Int):Bool:=x.all fun c=>decide (-1099511627776<=c)&&decide (c<=1099511627776)
theorem n9 {k:Nat} (h:c[k]?=some x) (b:x< -1099511627776\/1099511627776<x):Ay c=false:=by
 unfold Ay;rw[List.all_eq_false];exact⟨x,aai h,by simp;omega⟩
theorem Cz {k:Nat} (g:c.length<=k) (h: ∀j b,j<k->c[j]?=some b-> -1099511627776<=b/\b<=1099511627776):Ay c=true:=by
 unfold Ay;rw[aat];intro b e;obtain⟨j,f,rfl⟩:=abo e;have:=h j _ (by omega) (aay f);simp;omega
theorem tj {f:Type} {x:List f} {k:Nat} {P:f->Prop} {c:f} (h: ∀j c,j<k->x[j]?=some c->P c) (l:x[k]?=some c) (g:P c): ∀j c,j<k+1->x[j]?=some c->P c:=by
 intro j d m b;by_cases e:j=k
 ·subst e;rw[l]at b;cases b;exact g
 exact h j d (by omega) b
theorem kG (A:Option Addr) (c:Nat) (x:List Int) (w:World) (hx:RdI .i64 w A x) (lx:x.length<=9223372036854775807):
  Calls prog 163 #[.slice A x.length c] w fun e w'=>e= .returned (.bool (Ay x))/\w=w':=by
 have HX:=aal hx;clear hx
 go_enter func163,ntmps163
 go_wp2_with fail
 go_loop [7,4] (fun i _=> ∃k:Nat,k<=x.length/\i= .int .i64 k/\Hid (∀j c,j<k->x[j]?=some c-> -1099511627776<=c/\c<=1099511627776)) (fun i _=>x.length-(intOf i).toNat)
 case atStart=>grind [Lib.hid]
 case round=>
  obtain⟨k,hk,rfl,HR⟩:=hrel;by_cases hlt:k<x.length
  ·obtain⟨a,ha⟩:=getElem?_of_lt hlt;obtain⟨b,off,rfl,hc⟩:=HX.out.at_ ha;have HA:=aal ha;clear ha;by_cases h1:a< -1099511627776
   ·go_wp2_with fail
    go_ret
    exact⟨fG (n9 HA.out (.inl h1)).symm,rfl⟩
   by_cases h2:1099511627776<a
   ·go_wp2_with fail
    go_ret
    exact⟨fG (n9 HA.out (.inr h2)).symm,rfl⟩
   go_wp2_with fail
   go_round
   case rel=>exact⟨k+1,by omega,by go_num,aal (tj (P:=fun c=> -1099511627776<=c/\c<=1099511627776) HR.out HA.out (by omega))⟩
   grind [intOf]
  go_wp2_with fail
  go_ret
  exact⟨fG (Cz (by omega) HR.out).symm,rfl⟩
def FitB (n:Int) (x:List Int):Bool:=decide ((x.length:Int)=n)&&Ay x
theorem wv (n:Int) (A:Option Addr) (c:Nat) (x:List Int) (w:World) (hx:RdI .i64 w A x) (lx:x.length<=9223372036854775807):
  Calls prog 116 #[.int .i64 n,.slice A x.length c] w fun e w'=>e= .returned (.bool (FitB n x))/\w=w':=by
 by_cases h:(x.length:Int)=n
 ·have hB:((x.length:Int)==n)=true:=by simp[h]
  go_enter func116,ntmps116
  have HH:=aal h;clear h
  go_wp2_with (go_at_call 163;refine(kG A c x _ hx lx).mono ?_;rintro e w' ⟨rfl,rfl⟩)
  go_ret
  exact⟨fG (by grind [FitB]),rfl⟩
 have hB:((x.length:Int)==n)=false:=by simp[h]
 go_enter func116,ntmps116
 go_wp2_with fail
 go_ret
 exact⟨fG (by simp[FitB,h]),rfl⟩
def ent (b:List (List Int)) (i j:Nat):Int:=(b.getD i []).getD j 0
theorem pA {i:Nat} {a:Int} (h:o[i]?=some c) (b:c[n]?=some a):ent o i n=a:=by
 grind [ent]
def kX (b:List (List Int)) (i j:Nat):Prop:=ent b i j=ent b j i/\ -262144<ent b i j/\ent b i j<262144
def jl (b:List (List Int)):Prop:=
 1<=b.length/\b.length<=8/\(∀i,i<b.length->(b.getD i []).length=b.length)/\ ∀i,i<b.length-> ∀j,j<b.length->kX b i j
instance (rows:List (List Int)) (i j:Nat):Decidable (kX rows i j):=inferInstanceAs (Decidable (_/\_))
instance (rows:List (List Int)):Decidable (jl rows):=inferInstanceAs (Decidable (_/\_/\_/\_))
theorem BJ {p:Prop} [Decidable p] (h:p):Ending.returned (.bool true)= .returned (.bool (decide p)):=by simp[h]
theorem dY {p:Prop} [Decidable p] (h: ¬p):Ending.returned (.bool false)= .returned (.bool (decide p)):=by simp[h]
theorem tK (A:Option Addr) (c:Nat) (rows:List (List Int)) (w:World) (hx:oP .i64 w A rows) (lx:rows.length<=9223372036854775807):
  Calls prog 85 #[.slice A rows.length c] w fun e w'=>e= .returned (.bool (decide (jl rows)))/\w=w':=by
 have HX:=aal hx;clear hx
 go_enter func85,ntmps85
 by_cases hn1:rows.length<1
 ·go_wp2_with fail
  go_ret
  exact⟨dY (fun h=>by have:=h.1;omega),rfl⟩
 by_cases hn8:8<rows.length
 ·go_wp2_with fail
  go_ret
  exact⟨dY (fun h=>by have:=h.2.1;omega),rfl⟩
 go_wp2_with fail
 go_loop [20,5] (fun i _=> ∃k:Nat,k<=rows.length/\i= .int .i64 k/\Hid (∀i,i<k->(rows.getD i []).length=rows.length)) (fun i _=>rows.length-(intOf i).toNat)
 case atStart=>grind [Lib.hid]
 case round=>
  obtain⟨k,hk,rfl,HR⟩:=hrel;by_cases hlt:k<rows.length
  ·obtain⟨r,ha⟩:=getElem?_of_lt hlt;obtain⟨b,off,B,cr,rfl,hc,hcr,hlr,hr⟩:=HX.out.at_ ha;have HA:=aal ha;clear ha hr;by_cases h1:r.length=rows.length
   ·have h1':((r.length:Int) !=(rows.length:Int))=false:=by simp[h1]
    have H1:=aal h1;clear h1
    go_wp2_with fail
    go_round
    case rel=>
     exact⟨k+1,by omega,by go_num,aal (fun i hi=>by
      by_cases e:i=k
      ·subst e;rw[aaw,HA.out];exact H1.out
      exact HR.out i (by omega))⟩
    grind [intOf]
   have h1':((r.length:Int) !=(rows.length:Int))=true:=by simp;omega
   go_wp2_with fail
   go_ret
   exact⟨dY (fun h=>by have:=h.2.2.1 k hlt;rw[aaw,HA.out]at this;grind),rfl⟩
  have HL:Hid (∀i,i<rows.length->(rows.getD i []).length=rows.length):=aal (fun i hi=>HR.out i (by omega));clear HR
  go_wp2_with fail
  go_loop [31,6,7,8,9] (fun i _ _ _ _=> ∃k:Nat,k<=rows.length/\i= .int .i64 k/\Hid (∀i,i<k-> ∀j,j<rows.length->kX rows i j)) (fun i _ _ _ _=>rows.length-(intOf i).toNat)
  case atStart=>grind [Lib.hid]
  case round=>
   obtain⟨k,hk,rfl,HR⟩:=hrel;by_cases hlt:k<rows.length
   ·obtain⟨r,ha⟩:=getElem?_of_lt hlt;obtain⟨b,off,B,cr,rfl,hc,hcr,hlr,hr⟩:=HX.out.at_ ha;have hrl:r.length=rows.length:=by have:=HL.out k hlt;grind
    have HA:=aal ha;have HRR:=aal hr;have HRL:=aal hrl;clear ha hr hrl
    go_wp2_with fail
    go_loop [38,8,9] (fun i _ _=> ∃l:Nat,l<=rows.length/\i= .int .i64 l/\Hid (∀j,j<l->kX rows k j)) (fun i _ _=>rows.length-(intOf i).toNat)
    case atStart=>exact⟨0,aaW _,rfl,aal (fun j h=>by omega)⟩
    case round=>
     obtain⟨l,hl,rfl,HQ⟩:=hrel;by_cases hll:l<rows.length
     ·obtain⟨a,ha⟩:=getElem?_of_lt (l:=r) (k:=l) (by rw[HRL.out];exact hll);obtain⟨b2,off2,rfl,hc2⟩:=HRR.out.at_ ha;have HA2:=aal ha;clear ha;obtain⟨r3,ha3⟩:=getElem?_of_lt hll;obtain⟨b3,off3,B3,cr3,h33,hc3,hcr3,hlr3,hr3⟩:=HX.out.at_ ha3;cases h33;have hrl3:r3.length=rows.length:=by have:=HL.out l hll;simp_all
      obtain⟨a4,ha4⟩:=getElem?_of_lt (l:=r3) (k:=k) (by omega);obtain⟨b4,off4,rfl,hc4⟩:=hr3.at_ ha4;have hlr4:k<r3.length:=by omega
      have hlr5:l<r.length:=by rw[HRL.out];exact hll
      have HA3:=aal ha3;have HA4:=aal ha4;have E1:=aal (pA HA.out HA2.out);have E2:=aal (pA HA3.out HA4.out);clear ha3 hr3 hrl3 ha4;by_cases g1:a=a4
      ·have g1':(a !=a4)=false:=by simp[g1]
       have G1:=aal g1;clear g1;by_cases g2:a<= -262144
       ·go_wp2_with fail
        go_ret
        exact⟨dY (fun h=>by have:=h.2.2.2 k hlt l hll;unfold kX at this;rw[E1.out]at this;omega),rfl⟩
       by_cases g3:262144<=a
       ·go_wp2_with fail
        go_ret
        exact⟨dY (fun h=>by have:=h.2.2.2 k hlt l hll;unfold kX at this;rw[E1.out]at this;omega),rfl⟩
       go_wp2_with fail
       go_round
       case rel=>
        exact⟨l+1,by omega,by go_num,aal (fun j hj=>by
         by_cases e:j=l
         ·subst e;unfold kX;rw[E1.out,E2.out,<- G1.out];omega
         exact HQ.out j (by omega))⟩
       case measure=>simp[intOf];omega
      have g1':(a !=a4)=true:=by simp[g1]
      go_wp2_with fail
      go_ret
      exact⟨dY (fun h=>by have:=h.2.2.2 k hlt l hll;unfold kX at this;rw[E1.out,E2.out]at this;omega),rfl⟩
     have hd:((l:Int)<(r.length:Int))=False:=by rw[HRL.out];simp;omega
     have hle:r.length<=l:=by simp_all
     clear hd
     go_wp2_with fail
     go_round
     case rel=>
      exact⟨k+1,by omega,by go_num,aal (fun i hi j hj=>by
       by_cases e:i=k
       ·subst e;exact HQ.out j (by omega)
       exact HR.out i (by omega) j hj)⟩
     case measure=>simp[intOf];omega
   go_wp2_with fail
   go_ret
   exact⟨BJ ⟨by omega,by omega,HL.out,fun i hi j hj=>HR.out i (by omega) j hj⟩,rfl⟩
def o7 (b:List (List Int)) (i:Nat):Prop:=wrap64 (2*ent b i 0)<=ent b 0 0/\wrap64 (-2*ent b i 0)<=ent b 0 0
def l7 (b:List (List Int)):Prop:=
 0<ent b 0 0/\ent b 0 0<65536/\ ∀i,i<b.length->1<=i->o7 b i
instance (rows:List (List Int)) (i:Nat):Decidable (o7 rows i):=inferInstanceAs (Decidable (_/\_))
instance (rows:List (List Int)):Decidable (l7 rows):=inferInstanceAs (Decidable (_/\_/\_))
theorem mR (A:Option Addr) (c:Nat) (rows:List (List Int)) (w:World) (hx:oP .i64 w A rows) (lx:rows.length<=9223372036854775807) (hcap:rows.length<=c)
  (hn:2<=rows.length) (hne: ∀i,i<rows.length->1<=(rows.getD i []).length):
  Calls prog 86 #[.slice A rows.length c] w fun e w'=>e= .returned (.bool (decide (l7 rows)))/\w=w':=by
 have HX:=aal hx;have HNE:=aal hne;clear hx hne;obtain⟨r,ha⟩:=getElem?_of_lt (l:=rows) (k:=0) (by omega);obtain⟨b,off,B,cr,rfl,hc,hcr,hlr,hr⟩:=HX.out.at_ ha;have hrl:1<=r.length:=by have:=HNE.out 0 (by omega);grind
 obtain⟨d,hd⟩:=getElem?_of_lt (l:=r) (k:=0) hrl;obtain⟨b2,off2,rfl,hc2⟩:=hr.at_ hd;have E0:=aal (pA ha hd);clear ha hd hr;rw[aa5]at hc hc2
 go_enter func86,ntmps86
 by_cases g1:d<=0
 ·go_wp2_with fail
  go_ret
  exact⟨dY (fun h=>by have:=h.1;rw[E0.out]at this;omega),rfl⟩
 by_cases g2:65536<=d
 ·go_wp2_with fail
  go_ret
  exact⟨dY (fun h=>by have:=h.2.1;rw[E0.out]at this;omega),rfl⟩
 go_wp2_with fail
 go_loop [20,5] (fun i _=> ∃k:Nat,k<=rows.length-1/\i= .int .i64 k/\Hid (∀i,i<k+1->1<=i->o7 rows i)) (fun i _=>rows.length-(intOf i).toNat)
 case atStart=>grind [Lib.hid]
 case round=>
  obtain⟨k,hk,rfl,HR⟩:=hrel;by_cases hlt:k<rows.length-1
  ·obtain⟨r3,ha3⟩:=getElem?_of_lt (l:=rows) (k:=k+1) (by omega);obtain⟨b3,off3,B3,cr3,h33,hc3,hcr3,hlr3,hr3⟩:=HX.out.at_ ha3;cases h33;rw[show off+(k+1)=off+1+k from by omega]at hc3;have hrl3:1<=r3.length:=by have:=HNE.out (k+1) (by omega);grind
   obtain⟨a,ha⟩:=getElem?_of_lt (l:=r3) (k:=0) hrl3;obtain⟨b4,off4,rfl,hc4⟩:=hr3.at_ ha;rw[aa5]at hc4;have E1:=aal (pA ha3 ha);clear ha3 hr3 ha;by_cases g3:d<wrap64 (2*a)
   ·go_wp2_with fail
    go_ret
    exact⟨dY (fun h=>by have:=h.2.2 (k+1) (by omega) (by omega);unfold o7 at this;rw[E0.out,E1.out]at this;omega),rfl⟩
   by_cases g4:d<wrap64 (-2*a)
   ·go_wp2_with fail
    go_ret
    exact⟨dY (fun h=>by have:=h.2.2 (k+1) (by omega) (by omega);unfold o7 at this;rw[E0.out,E1.out]at this;omega),rfl⟩
   go_wp2_with fail
   go_round
   case rel=>
    exact⟨k+1,by omega,by go_num,aal (fun i hi hi'=>by
     by_cases e:i=k+1
     ·subst e;unfold o7;rw[E0.out,E1.out];omega
     exact HR.out i (by omega) hi')⟩
   grind [intOf]
  go_wp2_with fail
  go_ret
  exact⟨BJ ⟨by rw[E0.out];omega,by rw[E0.out];omega,fun i hi hi'=>HR.out i (by omega) hi'⟩,rfl⟩
end Go.Proofs.YtalmoejhjceflaaGreat
