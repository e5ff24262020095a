/-
  Part 8 of a proof (walks and plain facts).
-/
import Derived.Test.YtobnpabndpmabaaGreatP06
set_option linter.all false
namespace Go.Proofs.YtobnpabndpmabaaGreat
open Go.RowKit
theorem limbs_dec {n : Nat} (h : ¬ n = 0) : n / 4294967296 < n := Nat.div_lt_self (by omega) (by omega)
def limbs (n : Nat) : List Nat := if n = 0 then [] else n % 4294967296 :: limbs (n / 4294967296)
termination_by n
decreasing_by exact limbs_dec (by assumption)
theorem limbs_zero : limbs 0 = [] := by rw [limbs]; simp
theorem limbs_pos {n : Nat} (h : n ≠ 0) : limbs n = n % 4294967296 :: limbs (n / 4294967296) := by rw [limbs]; simp [h]
theorem natV_limbs (n : Nat) : natV (limbs n) = n := by
  induction n using Nat.strongRecOn with
  | _ n ih =>
    by_cases h : n = 0
    · subst h; rw [limbs_zero]; rfl
    · rw [limbs_pos h, natV, ih _ (limbs_dec h)]; omega
theorem lmb_limbs (n : Nat) : Lmb (limbs n) := by
  induction n using Nat.strongRecOn with
  | _ n ih =>
    by_cases h : n = 0
    · subst h; rw [limbs_zero]; intro a ha; simp at ha
    · rw [limbs_pos h]
      intro a ha
      rcases List.mem_cons.1 ha with rfl | ha
      · omega
      · exact ih _ (limbs_dec h) a ha
theorem can_limbs (n : Nat) : Can (limbs n) := by
  induction n using Nat.strongRecOn with
  | _ n ih =>
    by_cases h : n = 0
    · subst h; rw [limbs_zero]; simp [Can]
    · rw [limbs_pos h]
      by_cases h2 : n / 4294967296 = 0
      · rw [h2, limbs_zero]; simp [Can]; omega
      · have := ih _ (limbs_dec h)
        rw [limbs_pos h2] at this ⊢
        unfold Can at *
        rw [List.getLast?_cons_cons]; exact this
theorem eq_limbs {l : List Nat} (h1 : Lmb l) (h2 : Can l) : l = limbs (natV l) :=
  can_inj h1 (lmb_limbs _) h2 (can_limbs _) (natV_limbs _).symm
theorem trim_limbs {l : List Nat} (h1 : Lmb l) : trimL l = limbs (natV l) := by
  rw [eq_limbs (trim_lmb h1) (trim_can l), natV_trim]
theorem trim_id (n : Nat) : trimL (limbs n) = limbs n := trim_of_can (can_limbs n)
theorem limbs_eq_nil {n : Nat} : limbs n = [] ↔ n = 0 := ⟨fun h => by rw [← natV_limbs n, h]; rfl, fun h => by rw [h, limbs_zero]⟩
theorem limbs_len {n k : Nat} (h : n < 4294967296 ^ k) : (limbs n).length ≤ k := can_len_le (can_limbs n) (by rw [natV_limbs]; exact h)
theorem limbs_len0 {n : Nat} : (limbs n).length = 0 ↔ n = 0 := by rw [List.length_eq_zero_iff, limbs_eq_nil]
def Sz (z : Int) (k : Nat) : Prop := z.natAbs < 4294967296 ^ k
theorem Sz.len {z : Int} {k : Nat} (h : Sz z k) : (limbs z.natAbs).length ≤ k := limbs_len h
theorem Sz.mono {z : Int} {k l : Nat} (h : Sz z k) (hl : k ≤ l) : Sz z l := Nat.lt_of_lt_of_le h (Nat.pow_le_pow_right (by omega) hl)
def fZ (z : Int) : List PV := [.raw (.bool (decide (z < 0))), .sl (ls fU (limbs z.natAbs))]
def cZ (z : Int) : List AV := [.p (.raw (.bool (decide (z < 0)))), .p (.sl (ls fU (limbs z.natAbs)))]
abbrev tZ (z : Int) : TV := .agg [.p (.raw (.bool (decide (z < 0)))), .p (.sl (ls fU (limbs z.natAbs)))]
theorem sgn_abs' (neg : Bool) (n : Nat) : (sgn neg n).natAbs = n := by unfold sgn; split <;> simp
theorem sgn_neg (neg : Bool) (n : Nat) : decide (sgn neg n < 0) = (neg && decide (0 < n)) := by
  unfold sgn
  cases neg with
  | true => simp
  | false => simp
set_option maxRecDepth 100000 in
set_option maxHeartbeats 1000000 in
theorem make_C (neg : Bool) (l : List Nat) (h : Lmb l) (hb : l.length ≤ 1073741824) : CallC Tryz.prog 136 [.raw (.bool neg), slU l] ⟨[], tZ (sgn neg (natV l))⟩ := by
  have ht := trim_C l hb
  rw [trim_limbs h] at ht
  have hlen : (limbs (natV l)).length ≤ 1073741824 := by rw [← trim_limbs h]; exact Nat.le_trans (trim_len l) hb
  refine callC_of Tryz.func136 rfl (by kernel_rfl) ?_; rw [Tryz.ntmps136]
  (refine WpA_sreg [] [] (by simp) fun K hK => ?_; simp (disch := omega) only [kc, prep1, slU, Nat.reduceAdd, List.replicate, opS_alloc, newS, effA, ty_zero79, Value.oneCell', ifT]; (with_reducible refine hK _ ?_))
  (refine WpA_sreg [⟨1, _, _, _, ht⟩] [] (by simp) fun K hK => ?_; simp (disch := omega) only [kc, slU, CItem.a, prep1, Nat.reduceAdd, opS_call, newS, effA, List.find?_cons, evAll, norm, CallRes.plain, rawTV, rawAV, normOk, noRefTV, noRefAV, renTV, renAV]; (with_reducible refine hK _ ?_))
  cases neg with
  | false =>
    (refine WpA_sreg [] [] (by simp) fun K hK => ?_; simp (disch := omega) only [kc, prep1, Nat.reduceAdd, stS_guard, opS_len, effR, ty_slice77, Option.map_none, effM, ofConst, Value.oneCell', opS_pick, opS_build, ty_zero79, ty_plc79, fillA, cellsOf, Nat.reduceLeDiff, Nat.le_refl, ifT, opS_store, wrS, effD, ty_sz79, updH, isPure, putCells, killTV, killAV]; (with_reducible refine hK _ ?_))
    refine WpA_ret ⟨.inr rfl, ret_now rfl ?_ rfl⟩
    simp (disch := omega) only [kc, resA, Tryz.results136, resOne, updH, ifF, packT, ty_sz79, ty_agg79, Nat.reduceAdd, Nat.le_refl, tZ]
    simp [tZ, sgn_abs', sgn_neg]
  | true =>
    (refine WpA_sreg [] [] (by simp) fun K hK => ?_; simp (disch := omega) only [kc, prep1, Nat.reduceAdd, stS_guard, opS_len, effR, ty_slice77, ls_len, effM, ofConst, Value.oneCell', ifT, evBin, opS_pick, opS_build, ty_zero79, ty_plc79, fillA, cellsOf, Nat.reduceLeDiff, Nat.le_refl, opS_store, wrS, effD, ty_sz79, updH, isPure, putCells, killTV, killAV]; (with_reducible refine hK _ ?_))
    refine WpA_ret ⟨.inr rfl, ret_now rfl ?_ rfl⟩
    simp (disch := omega) only [kc, resA, Tryz.results136, resOne, updH, ifF, packT, ty_sz79, ty_agg79, Nat.reduceAdd, Nat.le_refl, tZ]
    have : (0 < (limbs (natV l)).length) ↔ 0 < natV l := by
      have := limbs_len0 (n := natV l)
      omega
    simp [tZ, sgn_abs', sgn_neg, this]
abbrev Bg (z : Int) : Prop := Sz z 1073741824
theorem Bg.len {z : Int} (h : Bg z) : (limbs z.natAbs).length ≤ 1073741824 := limbs_len h
theorem mk_neg (z : Int) : sgn (!decide (z < 0)) z.natAbs = -z := by unfold sgn; by_cases h : z < 0 <;> simp [h] <;> omega
theorem mk_same (z : Int) : sgn (decide (z < 0)) z.natAbs = z := by unfold sgn; by_cases h : z < 0 <;> simp [h] <;> omega
set_option maxRecDepth 100000 in
set_option maxHeartbeats 1000000 in
theorem neg_C (z : Int) (h : Bg z) : CallC Tryz.prog 106 [tZ z] ⟨[], tZ (-z)⟩ := by
  have ht := make_C (!decide (z < 0)) (limbs z.natAbs) (lmb_limbs _) h.len
  rw [natV_limbs, mk_neg] at ht
  refine callC_of Tryz.func106 rfl (by kernel_rfl) ?_; rw [Tryz.ntmps106]
  (refine WpA_sreg [] [] (by simp) fun K hK => ?_; simp (disch := omega) only [kc, prep1, tZ, List.replicate, opS_box, newS, effA, cellsOf, isPure, Nat.reduceAdd, ifT, opS_alloc, ty_zero79, Value.oneCell', updH, Nat.reduceEqDiff]; (with_reducible refine hK _ ?_))
  (refine WpA_sreg [⟨5, _, _, _, ht⟩] [] (by simp) fun K hK => ?_; simp (disch := omega) only [kc, slU, tZ, CItem.a, prep1, Nat.reduceAdd, opS_fieldAddr, effR, ty_fld79_0, ty_sz4, Nat.add_zero, updH, Nat.reduceEqDiff, packT, ty_agg4, opS_un, effM, evUn, ty_fld79_1, ty_sz77, ty_agg77, opS_call, newS, effA, List.find?_cons, evAll, norm, CallRes.plain, rawTV, rawAV, normOk, noRefTV, noRefAV, renTV, renAV, opS_store, wrS, effD, ty_sz79, cellsOf, Nat.le_refl, isPure, ifT, putCells, killTV, killAV]; (with_reducible refine hK _ ?_))
  (refine WpA_ret ⟨.inr rfl, ret_now rfl ?_ rfl⟩; simp (disch := omega) only [kc, resA, Tryz.results106, resOne, updH, Nat.reduceEqDiff, ifF, packT, ty_sz79, ty_agg79, Nat.reduceAdd, Nat.le_refl, tZ])
set_option maxRecDepth 100000 in
set_option maxHeartbeats 1000000 in
theorem abs_C (z : Int) (h : Bg z) : CallC Tryz.prog 94 [tZ z] ⟨[], tZ z.natAbs⟩ := by
  have ht := make_C false (limbs z.natAbs) (lmb_limbs _) h.len
  rw [natV_limbs, show sgn false z.natAbs = z.natAbs from rfl] at ht
  refine callC_of Tryz.func94 rfl (by kernel_rfl) ?_; rw [Tryz.ntmps94]
  (refine WpA_sreg [] [] (by simp) fun K hK => ?_; simp (disch := omega) only [kc, prep1, tZ, List.replicate, opS_box, newS, effA, cellsOf, isPure, Nat.reduceAdd, ifT, opS_alloc, ty_zero79, Value.oneCell', updH, Nat.reduceEqDiff]; (with_reducible refine hK _ ?_))
  (refine WpA_sreg [⟨2, _, _, _, ht⟩] [] (by simp) fun K hK => ?_; simp (disch := omega) only [kc, slU, tZ, decF, CItem.a, prep1, Nat.reduceAdd, opS_fieldAddr, effR, ty_fld79_1, ty_sz77, updH, Nat.reduceEqDiff, packT, ty_agg77, opS_call, newS, effA, List.find?_cons, evAll, ofConst, Value.oneCell', norm, CallRes.plain, rawTV, rawAV, normOk, noRefTV, noRefAV, renTV, renAV, opS_store, wrS, effD, ty_sz79, cellsOf, Nat.le_refl, isPure, ifT, putCells, killTV, killAV]; (with_reducible refine hK _ ?_))
  (refine WpA_ret ⟨.inr rfl, ret_now rfl ?_ rfl⟩; simp (disch := omega) only [kc, resA, Tryz.results94, resOne, updH, Nat.reduceEqDiff, ifF, packT, ty_sz79, ty_agg79, Nat.reduceAdd, Nat.le_refl, tZ, decF])
set_option maxRecDepth 100000 in
set_option maxHeartbeats 1000000 in
theorem norm_C (z : Int) (h : Bg z) : CallC Tryz.prog 103 [tZ z] ⟨[], tZ z⟩ := by
  have ht := make_C (decide (z < 0)) (limbs z.natAbs) (lmb_limbs _) h.len
  rw [natV_limbs, mk_same] at ht
  refine callC_of Tryz.func103 rfl (by kernel_rfl) ?_; rw [Tryz.ntmps103]
  (refine WpA_sreg [] [] (by simp) fun K hK => ?_; simp (disch := omega) only [kc, prep1, tZ, List.replicate, opS_box, newS, effA, cellsOf, isPure, Nat.reduceAdd, ifT, opS_alloc, ty_zero79, Value.oneCell', updH, Nat.reduceEqDiff]; (with_reducible refine hK _ ?_))
  (refine WpA_sreg [⟨4, _, _, _, ht⟩] [] (by simp) fun K hK => ?_; simp (disch := omega) only [kc, slU, tZ, CItem.a, prep1, Nat.reduceAdd, opS_fieldAddr, effR, ty_fld79_0, ty_sz4, Nat.add_zero, updH, Nat.reduceEqDiff, packT, ty_agg4, ty_fld79_1, ty_sz77, ty_agg77, opS_call, newS, effA, List.find?_cons, evAll, norm, CallRes.plain, rawTV, rawAV, normOk, noRefTV, noRefAV, renTV, renAV, opS_store, wrS, effD, ty_sz79, cellsOf, Nat.le_refl, isPure, ifT, putCells, killTV, killAV]; (with_reducible refine hK _ ?_))
  (refine WpA_ret ⟨.inr rfl, ret_now rfl ?_ rfl⟩; simp (disch := omega) only [kc, resA, Tryz.results103, resOne, updH, Nat.reduceEqDiff, ifF, packT, ty_sz79, ty_agg79, Nat.reduceAdd, Nat.le_refl, tZ])
set_option maxRecDepth 100000 in
set_option maxHeartbeats 1000000 in
theorem word_C (neg : Bool) (u : Nat) (hu : u < 18446744073709551616) : CallC Tryz.prog 132 [.raw (.bool neg), .raw (.int .u64 u)] ⟨[], tZ (sgn neg u)⟩ := by
  have ht := make_C neg [u % 4294967296, u / 4294967296] (by intro a ha; simp at ha; omega) (by simp)
  rw [two_limbs] at ht
  have e1 : IntKind.u32.wrap (u : Int) = ((u % 4294967296 : Nat) : Int) := by rw [IntKind.wrap_u32]; omega
  have e2 : IntKind.u32.wrap ((u : Int).fdiv (2 ^ (min (32 : Int).toNat IntKind.u64.bits))) = ((u / 4294967296 : Nat) : Int) := by
    rw [IntKind.wrap_u32]
    show (Int.fdiv (u : Int) 4294967296) % 4294967296 = _
    rw [Int.fdiv_eq_ediv_of_nonneg _ (by omega)]
    omega
  simp only [Int.reduceToNat] at e2
  refine callC_of Tryz.func132 rfl (by kernel_rfl) ?_; rw [Tryz.ntmps132]
  (refine WpA_sreg [] [] (by simp) fun K hK => ?_; simp (disch := omega) only [kc, prep1, Nat.reduceAdd, List.replicate, opS_alloc, newS, effA, ty_zero79, Value.oneCell', ifT]; (with_reducible refine hK _ ?_))
  (refine WpA_sreg [⟨7, _, _, _, ht⟩] [] (by simp) fun K hK => ?_; simp (disch := omega) only [kc, slU, ls_cons, fU, ls_nil, tZ, CItem.a, prep1, Nat.reduceAdd, opS_conv, effM, Tryz.underlying35, ty_int154, e1, ofConst, Value.oneCell', evBin, Int.reduceLE, Int.reduceToNat, e2, opS_buildSlice, newS, effA, ty_slice77, ty_zero154, ty_sz154, litA, cellsOf, isPure, Nat.reduceMul, Nat.reduceLeDiff, List.contains_nil, unP, ifT, opS_call, List.find?_cons, evAll, norm, CallRes.plain, rawTV, rawAV, normOk, noRefTV, noRefAV, renTV, renAV, opS_store, wrS, effD, ty_sz79, updH, Nat.le_refl, putCells, killTV, killAV]; (with_reducible refine hK _ ?_))
  (refine WpA_ret ⟨.inr rfl, ret_now rfl ?_ rfl⟩; simp (disch := omega) only [kc, resA, Tryz.results132, resOne, updH, ifF, packT, ty_sz79, ty_agg79, Nat.reduceAdd, Nat.le_refl, tZ])
set_option maxRecDepth 100000 in
set_option maxHeartbeats 1000000 in
theorem small_C (n : Int) (h1 : -9223372036854775808 ≤ n) (h2 : n ≤ 9223372036854775807) : CallC Tryz.prog 91 [.raw (.int .i64 n)] ⟨[], tZ n⟩ := by
  by_cases hn : n < 0
  · have ht := word_C true n.natAbs (by omega)
    have e1 : IntKind.u64.wrap (0 - IntKind.u64.wrap n) = ((n.natAbs : Nat) : Int) := by rw [IntKind.wrap_u64, IntKind.wrap_u64]; omega
    rw [show sgn true n.natAbs = n by unfold sgn; simp; omega] at ht
    refine callC_of Tryz.func91 rfl (by kernel_rfl) ?_; rw [Tryz.ntmps91]
    (refine WpA_sreg [] [] (by simp) fun K hK => ?_; simp (disch := omega) only [kc, prep1, List.replicate, opS_alloc, newS, effA, ty_zero79, Value.oneCell', Nat.reduceAdd, ifT]; (with_reducible refine hK _ ?_))
    (refine WpA_seq (WpA_sreg [] [] (by simp) fun K hK => ?_); simp (disch := omega) only [kc, prep1, effM, ofConst, Value.oneCell', evBin, decT]; (with_reducible refine hK _ ?_))
    refine WpA_cond rfl (fun _ => ?_) (fun h => by simp at h)
    (refine WpA_sreg [⟨3, _, _, _, ht⟩] [] (by simp) fun K hK => ?_; simp (disch := omega) only [kc, tZ, decT, CItem.a, prep1, Nat.reduceAdd, opS_conv, effM, Tryz.underlying2, ty_int35, opS_un, evUn, e1, opS_call, newS, effA, List.find?_cons, evAll, ofConst, Value.oneCell', norm, CallRes.plain, rawTV, rawAV, normOk, noRefTV, noRefAV, renTV, renAV, opS_store, wrS, effD, ty_sz79, updH, cellsOf, Nat.le_refl, isPure, ifT, putCells, killTV, killAV]; (with_reducible refine hK _ ?_))
    (refine WpA_ret ⟨.inr rfl, ret_now rfl ?_ rfl⟩; simp (disch := omega) only [kc, resA, Tryz.results91, resOne, updH, ifF, packT, ty_sz79, ty_agg79, Nat.reduceAdd, Nat.le_refl, tZ, decT])
  · have ht := word_C false n.natAbs (by omega)
    have e1 : IntKind.u64.wrap n = ((n.natAbs : Nat) : Int) := by rw [IntKind.wrap_u64]; omega
    rw [show sgn false n.natAbs = n by unfold sgn; simp; omega] at ht
    refine callC_of Tryz.func91 rfl (by kernel_rfl) ?_; rw [Tryz.ntmps91]
    (refine WpA_sreg [] [] (by simp) fun K hK => ?_; simp (disch := omega) only [kc, prep1, List.replicate, opS_alloc, newS, effA, ty_zero79, Value.oneCell', Nat.reduceAdd, ifT]; (with_reducible refine hK _ ?_))
    (refine WpA_seq (WpA_sreg [] [] (by simp) fun K hK => ?_); simp (disch := omega) only [kc, prep1, effM, ofConst, Value.oneCell', evBin, decF]; (with_reducible refine hK _ ?_))
    refine WpA_cond rfl (fun h => by simp at h) (fun _ => WpA_skip ?_)
    show WpA _ _ _ _
    (refine WpA_sreg [⟨2, _, _, _, ht⟩] [] (by simp) fun K hK => ?_; simp (disch := omega) only [kc, tZ, decF, CItem.a, prep1, Nat.reduceAdd, opS_conv, effM, Tryz.underlying2, ty_int35, e1, opS_call, newS, effA, List.find?_cons, evAll, ofConst, Value.oneCell', norm, CallRes.plain, rawTV, rawAV, normOk, noRefTV, noRefAV, renTV, renAV, opS_store, wrS, effD, ty_sz79, updH, cellsOf, Nat.le_refl, isPure, ifT, putCells, killTV, killAV]; (with_reducible refine hK _ ?_))
    (refine WpA_ret ⟨.inr rfl, ret_now rfl ?_ rfl⟩; simp (disch := omega) only [kc, resA, Tryz.results91, resOne, updH, ifF, packT, ty_sz79, ty_agg79, Nat.reduceAdd, Nat.le_refl, tZ, decF])
set_option maxRecDepth 100000 in
set_option maxHeartbeats 1000000 in
theorem sign_C (z : Int) (h : Bg z) : CallC Tryz.prog 133 [tZ z] ⟨[], .raw (.int .i64 (sg z))⟩ := by
  have ht := trim_C (limbs z.natAbs) h.len
  rw [trim_id] at ht
  have hl := limbs_len0 (n := z.natAbs)
  rcases Int.lt_trichotomy z 0 with hz | hz | hz
  · have e : sg z = -1 := by simp [sg, hz]
    have hl' : (limbs z.natAbs).length ≠ 0 := by omega
    rw [e]
    refine callC_of Tryz.func133 rfl (by kernel_rfl) ?_; rw [Tryz.ntmps133]
    (refine WpA_sreg [] [] (by simp) fun K hK => ?_; simp (disch := omega) only [kc, prep1, tZ, decT, List.replicate, opS_box, newS, effA, cellsOf, isPure, Nat.reduceAdd, ifT, ofConst, Value.oneCell']; (with_reducible refine hK _ ?_))
    refine WpA_seq (WpA_block ?_)
    (refine WpA_sreg [⟨2, _, _, _, ht⟩] [] (by simp) fun K hK => ?_; simp (disch := omega) only [kc, slU, CItem.a, prep1, Nat.reduceAdd, opS_fieldAddr, effR, ty_fld79_1, ty_sz77, updH, packT, ty_agg77, opS_call, newS, effA, List.find?_cons, evAll, norm, CallRes.plain, rawTV, rawAV, normOk, noRefTV, noRefAV, renTV, renAV, opS_len, ty_slice77, ls_len, effM, ofConst, Value.oneCell', evBin, decF]; (with_reducible refine hK _ ?_))
    refine WpA_cond rfl (fun h => by simp at h) (fun _ => ?_)
    (refine WpA_sreg [] [] (by simp) fun K hK => ?_; simp (disch := omega) only [kc, prep1, Nat.reduceAdd, opS_fieldAddr, effR, ty_fld79_0, ty_sz4, Nat.add_zero, updH, packT, ty_agg4]; (with_reducible refine hK _ ?_))
    refine WpA_cond rfl (fun _ => ?_) (fun h => by simp at h)
    (refine WpA_sreg [] [] (by simp) fun K hK => ?_; simp (disch := omega) only [kc, prep1, ofConst, Value.oneCell']; (with_reducible refine hK _ ?_))
    (refine WpA_ret ⟨.inr rfl, ret_now rfl ?_ rfl⟩; simp (disch := omega) only [resA, Tryz.results133, resOne, List.getElem?_cons_succ, List.getElem?_cons_zero])
  · subst hz
    rw [show sg 0 = 0 from rfl]
    rw [Int.natAbs_zero, limbs_zero] at ht
    rw [show tZ 0 = .agg [.p (.raw (.bool false)), .p (.sl (ls fU []))] from by simp [tZ, limbs_zero]]
    refine callC_of Tryz.func133 rfl (by kernel_rfl) ?_; rw [Tryz.ntmps133]
    (refine WpA_sreg [] [] (by simp) fun K hK => ?_; simp (disch := omega) only [kc, prep1, ls_nil, List.replicate, opS_box, newS, effA, cellsOf, isPure, Nat.reduceAdd, ifT, ofConst, Value.oneCell']; (with_reducible refine hK _ ?_))
    refine WpA_seq (WpA_block ?_)
    (refine WpA_sreg [⟨2, _, _, _, ht⟩] [] (by simp) fun K hK => ?_; simp (disch := omega) only [kc, slU, ls_nil, CItem.a, prep1, Nat.reduceAdd, opS_fieldAddr, effR, ty_fld79_1, ty_sz77, updH, packT, ty_agg77, opS_call, newS, effA, List.find?_cons, evAll, norm, CallRes.plain, rawTV, rawAV, normOk, noRefTV, noRefAV, renTV, renAV, opS_len, ty_slice77, effM, ofConst, Value.oneCell', evBin, decT]; (with_reducible refine hK _ ?_))
    refine WpA_cond rfl (fun _ => ?_) (fun h => by simp at h)
    (refine WpA_sreg [] [] (by simp) fun K hK => ?_; simp (disch := omega) only [kc, prep1, ofConst, Value.oneCell']; (with_reducible refine hK _ ?_))
    (refine WpA_ret ⟨.inr rfl, ret_now rfl ?_ rfl⟩; simp (disch := omega) only [resA, Tryz.results133, resOne, List.getElem?_cons_succ, List.getElem?_cons_zero])
  · have e : sg z = 1 := by unfold sg; rw [if_neg (by omega), if_neg (by omega)]
    have hl' : (limbs z.natAbs).length ≠ 0 := by omega
    rw [e]
    refine callC_of Tryz.func133 rfl (by kernel_rfl) ?_; rw [Tryz.ntmps133]
    (refine WpA_sreg [] [] (by simp) fun K hK => ?_; simp (disch := omega) only [kc, prep1, tZ, decF, List.replicate, opS_box, newS, effA, cellsOf, isPure, Nat.reduceAdd, ifT, ofConst, Value.oneCell']; (with_reducible refine hK _ ?_))
    refine WpA_seq (WpA_block ?_)
    (refine WpA_sreg [⟨2, _, _, _, ht⟩] [] (by simp) fun K hK => ?_; simp (disch := omega) only [kc, slU, CItem.a, prep1, Nat.reduceAdd, opS_fieldAddr, effR, ty_fld79_1, ty_sz77, updH, packT, ty_agg77, opS_call, newS, effA, List.find?_cons, evAll, norm, CallRes.plain, rawTV, rawAV, normOk, noRefTV, noRefAV, renTV, renAV, opS_len, ty_slice77, ls_len, effM, ofConst, Value.oneCell', evBin, decF]; (with_reducible refine hK _ ?_))
    refine WpA_cond rfl (fun h => by simp at h) (fun _ => ?_)
    (refine WpA_sreg [] [] (by simp) fun K hK => ?_; simp (disch := omega) only [kc, prep1, Nat.reduceAdd, opS_fieldAddr, effR, ty_fld79_0, ty_sz4, Nat.add_zero, updH, packT, ty_agg4]; (with_reducible refine hK _ ?_))
    refine WpA_cond rfl (fun h => by simp at h) (fun _ => WpA_skip ?_)
    show WpA _ _ _ _
    (refine WpA_sreg [] [] (by simp) fun K hK => ?_; simp (disch := omega) only [kc, prep1, ofConst, Value.oneCell']; (with_reducible refine hK _ ?_))
    (refine WpA_ret ⟨.inr rfl, ret_now rfl ?_ rfl⟩; simp (disch := omega) only [resA, Tryz.results133, resOne, List.getElem?_cons_succ, List.getElem?_cons_zero])
end Go.Proofs.YtobnpabndpmabaaGreat
namespace Go.Proofs.YtobnpabndpmabaaGreat
open Go.RowKit
set_option maxRecDepth 100000 in
set_option maxHeartbeats 1000000 in
theorem cmp_C (l m : List Nat) (ll : Lmb l) (lm : Lmb m) (cl : Can l) (cm : Can m) (bl : l.length ≤ 1073741824) (bm : m.length ≤ 1073741824) :
    CallC Tryz.prog 134 [slU l, slU m] ⟨[], .raw (.int .i64 (cmpU (natV l) (natV m)))⟩ := by
  rcases Nat.lt_trichotomy l.length m.length with hlt | heq | hgt
  · rw [cmpU_lt (natV_lt_len ll cm hlt)]
    refine callC_of Tryz.func134 rfl (by kernel_rfl) ?_; rw [Tryz.ntmps134]
    (refine WpA_sreg [] [] (by simp) fun K hK => ?_; simp (disch := omega) only [kc, prep1, slU, Nat.reduceAdd, List.replicate, ofConst, Value.oneCell']; (with_reducible refine hK _ ?_))
    (refine WpA_seq (WpA_sreg [] [] (by simp) fun K hK => ?_); simp (disch := omega) only [kc, prep1, Nat.reduceAdd, opS_len, effR, ty_slice77, ls_len, effM, evBin, decF, Bool.not_false]; (with_reducible refine hK _ ?_))
    refine WpA_cond rfl (fun _ => ?_) (fun h => by simp at h)
    (refine WpA_seq (WpA_sreg [] [] (by simp) fun K hK => ?_); simp (disch := omega) only [kc, prep1, Nat.reduceAdd, opS_len, effR, ty_slice77, ls_len, effM, evBin, decT]; (with_reducible refine hK _ ?_))
    refine WpA_cond rfl (fun _ => ?_) (fun h => by simp at h)
    (refine WpA_sreg [] [] (by simp) fun K hK => ?_; simp (disch := omega) only [kc, prep1, ofConst, Value.oneCell']; (with_reducible refine hK _ ?_))
    (refine WpA_ret ⟨.inr rfl, ret_now rfl ?_ rfl⟩; simp (disch := omega) only [resA, Tryz.results134, resOne, List.getElem?_cons_succ, List.getElem?_cons_zero])
  · refine callC_of Tryz.func134 rfl (by kernel_rfl) ?_; rw [Tryz.ntmps134]
    (refine WpA_sreg [] [] (by simp) fun K hK => ?_; simp (disch := omega) only [kc, prep1, slU, Nat.reduceAdd, List.replicate, ofConst, Value.oneCell']; (with_reducible refine hK _ ?_))
    (refine WpA_seq (WpA_sreg [] [] (by simp) fun K hK => ?_); simp (disch := omega) only [kc, prep1, Nat.reduceAdd, opS_len, effR, ty_slice77, ls_len, effM, evBin, decT]; (with_reducible refine hK _ ?_))
    refine WpA_cond rfl (fun h => by simp at h) (fun _ => WpA_skip ?_)
    show WpA _ _ _ _
    (refine WpA_seq (WpA_sreg [] [] (by simp) fun K hK => ?_); simp (disch := omega) only [kc, prep1, Nat.reduceAdd, opS_len, effR, ty_slice77, ls_len, effM, ofConst, Value.oneCell', evBin, wrapI]; (with_reducible refine hK _ ?_))
    refine WpA_forb (G := {k : Nat // k ≤ l.length ∧ l.drop k = m.drop k}) (fun k => ⟨[slU l, slU m, jk, jk, .raw (.int .i64 0), .raw (.int .i64 ((k.1 : Int) - 1)), jk, jk, jk, jk, jk, jk, jk, jk, jk, jk, jk, jk, jk, jk, jk, jk, jk, jk, jk, jk, jk, jk, jk, jk, jk, jk, jk, jk, jk, jk, jk, jk, jk, jk, jk], Hm []⟩) (fun k => k.1) ⟨l.length, Nat.le_refl _, by rw [List.drop_length, heq, List.drop_length]⟩ ?_ ?_
    · refine Weak_sub trivial ?_
      simp [wkL, okTV, okAV]
    · rintro ⟨k, hk, hd⟩
      simp only
      by_cases h0 : 0 < k
      · obtain ⟨a, ha⟩ := getElem?_of_lt (l := l) (k := k - 1) (by omega)
        obtain ⟨b, hb⟩ := getElem?_of_lt (l := m) (k := k - 1) (by omega)
        have e1 : ((k : Int) - 1).toNat = k - 1 := by omega
        have hd' : l.drop (k - 1 + 1) = m.drop (k - 1 + 1) := by rw [show k - 1 + 1 = k by omega]; exact hd
        (refine WpA_seq (WpA_sreg [] [] (by simp) fun K hK => ?_); simp (disch := omega) only [kc, prep1, slU, Hm, effM, ofConst, Value.oneCell', evBin, decT]; (with_reducible refine hK _ ?_))
        refine WpA_cond rfl (fun _ => WpA_skip ?_) (fun h => by simp at h)
        refine WpA_seq (WpA_block ?_)
        (refine WpA_sdraw mixedA [] [] (by kernel_rfl) (by simp) fun K hK => ?_; simp (disch := omega) only [kc, prep1, Nat.reduceAdd, opS_indexAddr, effR, natOf_pos, e1, ty_slice77, ls_get, ha, fU, ty_sz154, packT, ty_agg154, hb, effM, evBin]; (with_reducible refine hK _ ?_))
        rcases Nat.lt_trichotomy a b with hab | hab | hab
        · rw [cmpU_lt (natV_lt_of ll ha hb hd' hab)]
          refine WpA_cond rfl (fun _ => ?_) (fun h => by simp at h <;> omega)
          (refine WpA_seq (WpA_sdraw mixedA [] [] (by kernel_rfl) (by simp) fun K hK => ?_); simp (disch := omega) only [kc, prep1, Nat.reduceAdd, decF, Bool.not_false, opS_indexAddr, effR, natOf_pos, e1, ty_slice77, ls_get, ha, fU, ty_sz154, packT, ty_agg154, hb, effM, evBin, decT]; (with_reducible refine hK _ ?_))
          refine WpA_cond rfl (fun _ => ?_) (fun h => by simp at h)
          (refine WpA_sreg [] [] (by simp) fun K hK => ?_; simp (disch := omega) only [kc, prep1, ofConst, Value.oneCell']; (with_reducible refine hK _ ?_))
          (refine WpA_ret ⟨.inr rfl, ret_now rfl ?_ rfl⟩; simp (disch := omega) only [resA, Tryz.results134, resOne, List.getElem?_cons_succ, List.getElem?_cons_zero])
        · subst hab
          refine WpA_cond rfl (fun h => by simp at h) (fun _ => WpA_skip ?_)
          show WpA _ _ _ _
          ((refine WpA_lreg [] [] (by simp) fun K hK => ?_); simp (disch := omega) only [kc, prep1, Nat.reduceAdd, decide_true, effM, ofConst, Value.oneCell', evBin, wrapI]; (with_reducible refine hK _ ?_))
          refine ⟨⟨k - 1, by omega, drop_snoc ha hb hd'⟩, by simp only; omega, Weak_sub trivial ?_⟩
          have e2 : ((k - 1 : Nat) : Int) = (k : Int) - 1 := by omega
          simp [wkL, okTV, okAV, e2]
        · rw [cmpU_gt (natV_lt_of lm hb ha hd'.symm hab)]
          refine WpA_cond rfl (fun _ => ?_) (fun h => by simp at h <;> omega)
          (refine WpA_seq (WpA_sdraw mixedA [] [] (by kernel_rfl) (by simp) fun K hK => ?_); simp (disch := omega) only [kc, prep1, Nat.reduceAdd, decF, Bool.not_false, opS_indexAddr, effR, natOf_pos, e1, ty_slice77, ls_get, ha, fU, ty_sz154, packT, ty_agg154, hb, effM, evBin]; (with_reducible refine hK _ ?_))
          refine WpA_cond rfl (fun h => by simp at h <;> omega) (fun _ => WpA_skip ?_)
          show WpA _ _ _ _
          (refine WpA_sreg [] [] (by simp) fun K hK => ?_; simp (disch := omega) only [kc, prep1, ofConst, Value.oneCell']; (with_reducible refine hK _ ?_))
          (refine WpA_ret ⟨.inr rfl, ret_now rfl ?_ rfl⟩; simp (disch := omega) only [resA, Tryz.results134, resOne, List.getElem?_cons_succ, List.getElem?_cons_zero])
      · have hk0 : k = 0 := by omega
        subst hk0
        have hlm : l = m := by simpa using hd
        rw [show cmpU (natV l) (natV m) = 0 by rw [hlm]; simp [cmpU]]
        (refine WpA_seq (WpA_sreg [] [] (by simp) fun K hK => ?_); simp (disch := omega) only [kc, prep1, slU, Hm, effM, ofConst, Value.oneCell', evBin, decF]; (with_reducible refine hK _ ?_))
        refine WpA_cond rfl (fun h => by simp at h) (fun _ => WpA_exit ?_)
        show WpA _ _ _ _
        (refine WpA_sreg [] [] (by simp) fun K hK => ?_; simp (disch := omega) only [kc, prep1, ofConst, Value.oneCell']; (with_reducible refine hK _ ?_))
        (refine WpA_ret ⟨.inr rfl, ret_now rfl ?_ rfl⟩; simp (disch := omega) only [resA, Tryz.results134, resOne, List.getElem?_cons_succ, List.getElem?_cons_zero])
  · rw [cmpU_gt (natV_lt_len lm cl hgt)]
    refine callC_of Tryz.func134 rfl (by kernel_rfl) ?_; rw [Tryz.ntmps134]
    (refine WpA_sreg [] [] (by simp) fun K hK => ?_; simp (disch := omega) only [kc, prep1, slU, Nat.reduceAdd, List.replicate, ofConst, Value.oneCell']; (with_reducible refine hK _ ?_))
    (refine WpA_seq (WpA_sreg [] [] (by simp) fun K hK => ?_); simp (disch := omega) only [kc, prep1, Nat.reduceAdd, opS_len, effR, ty_slice77, ls_len, effM, evBin, decF, Bool.not_false]; (with_reducible refine hK _ ?_))
    refine WpA_cond rfl (fun _ => ?_) (fun h => by simp at h)
    (refine WpA_seq (WpA_sreg [] [] (by simp) fun K hK => ?_); simp (disch := omega) only [kc, prep1, Nat.reduceAdd, opS_len, effR, ty_slice77, ls_len, effM, evBin, decF]; (with_reducible refine hK _ ?_))
    refine WpA_cond rfl (fun h => by simp at h) (fun _ => WpA_skip ?_)
    show WpA _ _ _ _
    (refine WpA_sreg [] [] (by simp) fun K hK => ?_; simp (disch := omega) only [kc, prep1, ofConst, Value.oneCell']; (with_reducible refine hK _ ?_))
    (refine WpA_ret ⟨.inr rfl, ret_now rfl ?_ rfl⟩; simp (disch := omega) only [resA, Tryz.results134, resOne, List.getElem?_cons_succ, List.getElem?_cons_zero])
def cmpZ (a b : Int) : Int := if a < b then -1 else if a = b then 0 else 1
theorem sg_range (z : Int) : -1 ≤ sg z ∧ sg z ≤ 1 := by unfold sg; split <;> (try split) <;> omega
theorem cmpU_range (a b : Nat) : -1 ≤ cmpU a b ∧ cmpU a b ≤ 1 := by unfold cmpU; split <;> (try split) <;> omega
theorem cmpZ_ne {a b : Int} (h : sg a ≠ sg b) : cmpZ a b = if sg a < sg b then -1 else 1 := by
  unfold sg cmpZ at *
  (repeat' split at *) <;> omega
theorem cmpZ_eq {a b : Int} (h : sg a = sg b) : cmpZ a b = sg a * cmpU a.natAbs b.natAbs := by
  unfold sg cmpZ cmpU at *
  (repeat' split at *) <;> omega
set_option maxRecDepth 100000 in
set_option maxHeartbeats 1000000 in
theorem Cmp_C (a b : Int) (ha : Bg a) (hb : Bg b) : CallC Tryz.prog 93 [tZ a, tZ b] ⟨[], .raw (.int .i64 (cmpZ a b))⟩ := by
  have h1 := sign_C a ha
  have h2 := sign_C b hb
  have t1 := trim_C (limbs a.natAbs) ha.len
  have t2 := trim_C (limbs b.natAbs) hb.len
  rw [trim_id] at t1 t2
  have h3 := cmp_C (limbs a.natAbs) (limbs b.natAbs) (lmb_limbs _) (lmb_limbs _) (can_limbs _) (can_limbs _) ha.len hb.len
  rw [natV_limbs, natV_limbs] at h3
  have r1 := sg_range a
  have r2 := sg_range b
  have r3 := cmpU_range a.natAbs b.natAbs
  have r4 : -1 ≤ sg a * cmpU a.natAbs b.natAbs ∧ sg a * cmpU a.natAbs b.natAbs ≤ 1 := by
    have : sg a = -1 ∨ sg a = 0 ∨ sg a = 1 := by omega
    rcases this with h | h | h <;> rw [h] <;> omega
  by_cases hs : sg a = sg b
  · rw [cmpZ_eq hs]
    refine callC_of Tryz.func93 rfl (by kernel_rfl) ?_; rw [Tryz.ntmps93]
    (refine WpA_sreg [] [] (by simp) fun K hK => ?_; simp (disch := omega) only [kc, prep1, Nat.reduceAdd, tZ, List.replicate, opS_box, newS, effA, cellsOf, isPure, ifT, updH, Nat.reduceEqDiff, ofConst, Value.oneCell']; (with_reducible refine hK _ ?_))
    (refine WpA_sdraw mixedA [⟨1, _, _, _, h1⟩, ⟨3, _, _, _, h2⟩] [] (by kernel_rfl) (by simp) fun K hK => ?_; simp (disch := omega) only [kc, tZ, CItem.a, prep1, Nat.reduceAdd, effR, updH, Nat.reduceEqDiff, packT, ty_sz79, ty_agg79, Nat.le_refl, opS_call, newS, effA, List.find?_cons, evAll, norm, CallRes.plain, rawTV, rawAV, normOk, isPure, noRefTV, noRefAV, renTV, renAV, Nat.reduceBEq]; (with_reducible refine hK _ ?_))
    (refine WpA_seq (WpA_sreg [] [] (by simp) fun K hK => ?_); simp (disch := omega) only [kc, prep1, Nat.reduceAdd, effM, evBin, decT]; (with_reducible refine hK _ ?_))
    refine WpA_cond rfl (fun h => by simp at h <;> omega) (fun _ => WpA_skip ?_)
    show WpA _ _ _ _
    (refine WpA_sdraw mixedA [⟨3, _, _, _, t1⟩, ⟨6, _, _, _, t2⟩, ⟨7, _, _, _, h3⟩] [] (by kernel_rfl) (by simp) fun K hK => ?_; simp (disch := omega) only [kc, slU, CItem.a, prep1, Nat.reduceAdd, opS_fieldAddr, effR, ty_fld79_1, ty_sz77, updH, Nat.reduceEqDiff, packT, ty_agg77, opS_call, newS, effA, List.find?_cons, evAll, norm, CallRes.plain, rawTV, rawAV, normOk, noRefTV, noRefAV, renTV, renAV, Nat.reduceBEq, effM, evBin, wrapI]; (with_reducible refine hK _ ?_))
    (refine WpA_ret ⟨.inr rfl, ret_now rfl ?_ rfl⟩; simp (disch := omega) only [resA, Tryz.results93, resOne, List.getElem?_cons_succ, List.getElem?_cons_zero])
  · rw [cmpZ_ne hs]
    refine callC_of Tryz.func93 rfl (by kernel_rfl) ?_; rw [Tryz.ntmps93]
    (refine WpA_sreg [] [] (by simp) fun K hK => ?_; simp (disch := omega) only [kc, prep1, Nat.reduceAdd, tZ, List.replicate, opS_box, newS, effA, cellsOf, isPure, ifT, updH, Nat.reduceEqDiff, ofConst, Value.oneCell']; (with_reducible refine hK _ ?_))
    (refine WpA_sdraw mixedA [⟨1, _, _, _, h1⟩, ⟨3, _, _, _, h2⟩] [] (by kernel_rfl) (by simp) fun K hK => ?_; simp (disch := omega) only [kc, tZ, CItem.a, prep1, Nat.reduceAdd, effR, updH, Nat.reduceEqDiff, packT, ty_sz79, ty_agg79, Nat.le_refl, opS_call, newS, effA, List.find?_cons, evAll, norm, CallRes.plain, rawTV, rawAV, normOk, isPure, noRefTV, noRefAV, renTV, renAV, Nat.reduceBEq]; (with_reducible refine hK _ ?_))
    (refine WpA_seq (WpA_sreg [] [] (by simp) fun K hK => ?_); simp (disch := omega) only [kc, prep1, Nat.reduceAdd, effM, evBin, decF, Bool.not_false]; (with_reducible refine hK _ ?_))
    refine WpA_cond rfl (fun _ => ?_) (fun h => by simp at h <;> omega)
    (refine WpA_seq (WpA_sreg [] [] (by simp) fun K hK => ?_); simp (disch := omega) only [kc, prep1, Nat.reduceAdd, effM, evBin]; (with_reducible refine hK _ ?_))
    by_cases hlt : sg a < sg b
    · rw [if_pos hlt]
      refine WpA_cond rfl (fun _ => ?_) (fun h => by simp at h <;> omega)
      (refine WpA_sreg [] [] (by simp) fun K hK => ?_; simp (disch := omega) only [kc, prep1, decT, ofConst, Value.oneCell']; (with_reducible refine hK _ ?_))
      (refine WpA_ret ⟨.inr rfl, ret_now rfl ?_ rfl⟩; simp (disch := omega) only [resA, Tryz.results93, resOne, List.getElem?_cons_succ, List.getElem?_cons_zero])
    · rw [if_neg hlt]
      refine WpA_cond rfl (fun h => by simp at h <;> omega) (fun _ => WpA_skip ?_)
      show WpA _ _ _ _
      (refine WpA_sreg [] [] (by simp) fun K hK => ?_; simp (disch := omega) only [kc, prep1, decF, ofConst, Value.oneCell']; (with_reducible refine hK _ ?_))
      (refine WpA_ret ⟨.inr rfl, ret_now rfl ?_ rfl⟩; simp (disch := omega) only [resA, Tryz.results93, resOne, List.getElem?_cons_succ, List.getElem?_cons_zero])
end Go.Proofs.YtobnpabndpmabaaGreat
namespace Go.Proofs.YtobnpabndpmabaaGreat
open Go.RowKit
def sumL : List Nat → List Nat → Nat → List Nat
  | [], [], c => [c]
  | a :: m, [], c => (c + a) % 4294967296 :: sumL m [] ((c + a) / 4294967296)
  | [], b :: n, c => (c + b) % 4294967296 :: sumL [] n ((c + b) / 4294967296)
  | a :: m, b :: n, c => (c + a + b) % 4294967296 :: sumL m n ((c + a + b) / 4294967296)
theorem natV_sumL : ∀ (m n : List Nat) (c : Nat), natV (sumL m n c) = natV m + natV n + c
  | [], [], c => by simp [sumL, natV]
  | a :: m, [], c => by simp only [sumL, natV, natV_sumL m []]; omega
  | [], b :: n, c => by simp only [sumL, natV, natV_sumL [] n]; omega
  | a :: m, b :: n, c => by simp only [sumL, natV, natV_sumL m n]; omega
theorem lmb_cons {a : Nat} {l : List Nat} : Lmb (a :: l) ↔ a < 4294967296 ∧ Lmb l := by simp [Lmb]
theorem lmb_sumL : ∀ (m n : List Nat) (c : Nat), Lmb m → Lmb n → c ≤ 1 → Lmb (sumL m n c)
  | [], [], c, _, _, hc => by simp [sumL, Lmb]; omega
  | a :: m, [], c, hm, hn, hc => by
    rw [lmb_cons] at hm
    rw [sumL, lmb_cons]
    exact ⟨Nat.mod_lt _ (by omega), lmb_sumL m [] _ hm.2 hn (by omega)⟩
  | [], b :: n, c, hm, hn, hc => by
    rw [lmb_cons] at hn
    rw [sumL, lmb_cons]
    exact ⟨Nat.mod_lt _ (by omega), lmb_sumL [] n _ hm hn.2 (by omega)⟩
  | a :: m, b :: n, c, hm, hn, hc => by
    rw [lmb_cons] at hm hn
    rw [sumL, lmb_cons]
    exact ⟨Nat.mod_lt _ (by omega), lmb_sumL m n _ hm.2 hn.2 (by omega)⟩
theorem sumL_len : ∀ (m n : List Nat) (c : Nat), (sumL m n c).length = max m.length n.length + 1
  | [], [], c => by simp [sumL]
  | a :: m, [], c => by simp [sumL, sumL_len m []]
  | [], b :: n, c => by simp [sumL, sumL_len [] n]
  | a :: m, b :: n, c => by simp [sumL, sumL_len m n]
theorem drop_at {l : List Nat} {i a : Nat} (h : l[i]? = some a) : l.drop i = a :: l.drop (i + 1) := by
  obtain ⟨h1, rfl⟩ := List.getElem?_eq_some_iff.1 h
  exact List.drop_eq_getElem_cons h1
theorem drop_out {l : List Nat} {i : Nat} (h : l.length ≤ i) : l.drop i = [] := List.drop_eq_nil_iff.2 h
theorem lmb_at {l : List Nat} {i a : Nat} (hl : Lmb l) (h : l[i]? = some a) : a < 4294967296 := hl a (List.mem_of_getElem? h)
theorem w32 (x : Nat) : IntKind.u32.wrap (x : Int) = ((x % 4294967296 : Nat) : Int) := by rw [IntKind.wrap_u32]; omega
theorem s32 (x : Nat) : (x : Int).fdiv (2 ^ (min 32 IntKind.u64.bits)) = ((x / 4294967296 : Nat) : Int) := by
  show Int.fdiv (x : Int) 4294967296 = _
  rw [Int.fdiv_eq_ediv_of_nonneg _ (by omega)]; omega
structure SumG (m n : List Nat) where
  i : Nat
  o : List Nat
  c : Nat
  hi : i ≤ max m.length n.length
  hc : c ≤ 1
  ho : o.length = i
  h : o ++ sumL (m.drop i) (n.drop i) c = sumL m n 0
set_option maxRecDepth 100000 in
set_option maxHeartbeats 2000000 in
theorem sum_C (m n : List Nat) (lm : Lmb m) (ln : Lmb n) (bm : m.length ≤ 1073741824) (bn : n.length ≤ 1073741824) :
    CallC Tryz.prog 167 [slU m, slU n] ⟨[], slU (sumL m n 0)⟩ := by
  refine callC_of Tryz.func167 rfl (by kernel_rfl) ?_; rw [Tryz.ntmps167]
  (refine WpA_sreg [] [] (by simp) fun K hK => ?_; simp (disch := omega) only [kc, prep1, slU, Nat.reduceAdd, List.replicate, ofConst, Value.oneCell']; (with_reducible refine hK _ ?_))
  (refine WpA_sreg [] [] (by simp) fun K hK => ?_; simp (disch := omega) only [kc, prep1, ofConst, Value.oneCell']; (with_reducible refine hK _ ?_))
  (refine WpA_sreg [] [] (by simp) fun K hK => ?_; simp (disch := omega) only [kc, prep1, ofConst, Value.oneCell']; (with_reducible refine hK _ ?_))
  (refine WpA_seq (WpA_sreg [] [] (by simp) fun K hK => ?_); simp (disch := omega) only [kc, prep1, ofConst, Value.oneCell']; (with_reducible refine hK _ ?_))
  refine WpA_forb (G := SumG m n) (fun g => ⟨[slU m, slU n, jk, jk, .raw (.slice none 0 0), .one (.sl 46 0 0 g.o.length), .raw (.int .u64 (g.c : Int)), .raw (.int .i64 (g.i : Int)), jk, jk, jk, jk, jk, jk, jk, jk, jk, jk, jk, jk, jk, jk, jk, jk, jk, jk, jk, jk, jk, jk, jk, jk, jk, jk, jk, jk, jk, jk, jk, jk, jk, jk, jk, jk, jk, jk, jk, jk, jk, jk, jk, jk, jk, jk], Hm [(46, [⟨154, 1, lc fU g.o⟩])]⟩) (fun g => max m.length n.length - g.i) ⟨0, [], 0, by omega, by omega, rfl, rfl⟩ ?_ ?_
  · refine (Weak_nil (k := 5) (d := 46) 154 1 (by omega) rfl rfl).trans (Weak_sub ⟨rfl, trivial⟩ ?_)
    simp [wkL, okTV, okAV]
  · rintro ⟨i, o, c, hi, hc, ho, h⟩
    simp only
    have hmx : max m.length n.length ≤ 1073741824 := by omega
    by_cases hm : i < m.length
    · obtain ⟨a, ha⟩ := getElem?_of_lt hm
      have ha' := lmb_at lm ha
      (refine WpA_seq (WpA_sreg [] [] (by simp) fun K hK => ?_); simp (disch := omega) only [kc, prep1, Nat.reduceAdd, slU, Hm, opS_len, effR, ty_slice77, ls_len, effM, evBin, decT, stS_guard, reduceCtorEq, Option.map_none, opS_pick, ofConst, Value.oneCell']; (with_reducible refine hK _ ?_))
      refine WpA_cond rfl (fun _ => WpA_skip ?_) (fun h => by simp at h <;> omega)
      refine WpA_seq (WpA_block ?_)
      (refine WpA_seq (WpA_sreg [] [] (by simp) fun K hK => ?_); simp (disch := omega) only [kc, prep1, Nat.reduceAdd, opS_len, effR, ty_slice77, ls_len, effM, evBin, decT]; (with_reducible refine hK _ ?_))
      refine WpA_cond rfl (fun _ => ?_) (fun h => by simp at h <;> omega)
      ((refine WpA_lreg [] [] (by simp) fun K hK => ?_); simp (disch := omega) only [kc, prep1, Nat.reduceAdd, opS_indexAddr, effR, natOf_pos, ty_slice77, ls_get, ha, fU, ty_sz154, packT, ty_agg154, opS_conv, effM, Tryz.underlying154, ty_int35, wrapU, evBin]; (with_reducible refine hK _ ?_))
      show WpA _ _ _ _
      (refine WpA_seq (WpA_sreg [] [] (by simp) fun K hK => ?_); simp (disch := omega) only [kc, prep1, Nat.reduceAdd, opS_len, effR, ty_slice77, ls_len, effM, evBin]; (with_reducible refine hK _ ?_))
      by_cases hn : i < n.length
      · obtain ⟨b, hb⟩ := getElem?_of_lt hn
        have hb' := lmb_at ln hb
        refine WpA_cond rfl (fun _ => ?_) (fun h => by simp at h <;> omega)
        ((refine WpA_lreg [] [] (by simp) fun K hK => ?_); simp (disch := omega) only [kc, prep1, Nat.reduceAdd, decT, opS_indexAddr, effR, natOf_pos, ty_slice77, ls_get, hb, fU, ty_sz154, packT, ty_agg154, opS_conv, effM, Tryz.underlying154, ty_int35, wrapU, evBin]; (with_reducible refine hK _ ?_))
        show WpA _ _ _ _
        have e1 : IntKind.u32.wrap ((c : Int) + (a : Int) + (b : Int)) = (((c + a + b) % 4294967296 : Nat) : Int) := by rw [← w32]; congr 1 <;> omega
        have e2 : Int.fdiv ((c : Int) + (a : Int) + (b : Int)) (2 ^ (min 32 IntKind.u64.bits)) = (((c + a + b) / 4294967296 : Nat) : Int) := by rw [← s32]; congr 1 <;> omega
        (refine WpA_sreg [] [] (by simp) fun K hK => ?_; simp (disch := omega) only [kc, prep1, Nat.reduceAdd, opS_conv, effM, Tryz.underlying35, ty_int154, e1, opS_buildSlice, newS, effA, ty_slice77, ty_zero154, ty_sz154, litA, cellsOf, isPure, Nat.reduceMul, Nat.reduceLeDiff, List.contains_nil, unP, ifT, opS_append, appS, effD, newsOf, ty_by154, lc_allp, lc_len, allcons, allnil, and_true, killO, lc_kill, lcU_snoc, wrS, killTV, killAV]; (with_reducible refine hK _ ?_))
        ((refine WpA_lreg [] [] (by simp) fun K hK => ?_); simp (disch := omega) only [kc, prep1, Nat.reduceAdd, effM, ofConst, Value.oneCell', evBin, Int.reduceLE, Int.reduceToNat, e2]; (with_reducible refine hK _ ?_))
        show WpA _ _ _ _
        ((refine WpA_lreg [] [] (by simp) fun K hK => ?_); simp (disch := omega) only [kc, prep1, Nat.reduceAdd, effM, ofConst, Value.oneCell', evBin, wrapI]; (with_reducible refine hK _ ?_))
        refine ⟨⟨i + 1, o ++ [(c + a + b) % 4294967296], (c + a + b) / 4294967296, by omega, by omega, by simp [ho], ?_⟩, by simp only; omega, Weak_sub ⟨rfl, trivial⟩ ?_⟩
        · rw [← h, drop_at ha, drop_at hb, sumL, List.append_assoc]; rfl
        · simp [wkL, okTV, okAV]
      · refine WpA_cond rfl (fun h => by simp at h <;> omega) (fun _ => WpA_skip ?_)
        show WpA _ _ _ _
        have e1 : IntKind.u32.wrap ((c : Int) + (a : Int)) = (((c + a) % 4294967296 : Nat) : Int) := by rw [← w32]; congr 1 <;> omega
        have e2 : Int.fdiv ((c : Int) + (a : Int)) (2 ^ (min 32 IntKind.u64.bits)) = (((c + a) / 4294967296 : Nat) : Int) := by rw [← s32]; congr 1 <;> omega
        (refine WpA_sreg [] [] (by simp) fun K hK => ?_; simp (disch := omega) only [kc, prep1, Nat.reduceAdd, decF, opS_conv, effM, Tryz.underlying35, ty_int154, e1, opS_buildSlice, newS, effA, ty_slice77, ty_zero154, ty_sz154, litA, cellsOf, isPure, Nat.reduceMul, Nat.reduceLeDiff, List.contains_nil, unP, ifT, opS_append, appS, effD, newsOf, ty_by154, lc_allp, lc_len, allcons, allnil, and_true, killO, lc_kill, lcU_snoc, wrS, killTV, killAV]; (with_reducible refine hK _ ?_))
        ((refine WpA_lreg [] [] (by simp) fun K hK => ?_); simp (disch := omega) only [kc, prep1, Nat.reduceAdd, effM, ofConst, Value.oneCell', evBin, Int.reduceLE, Int.reduceToNat, e2]; (with_reducible refine hK _ ?_))
        show WpA _ _ _ _
        ((refine WpA_lreg [] [] (by simp) fun K hK => ?_); simp (disch := omega) only [kc, prep1, Nat.reduceAdd, effM, ofConst, Value.oneCell', evBin, wrapI]; (with_reducible refine hK _ ?_))
        refine ⟨⟨i + 1, o ++ [(c + a) % 4294967296], (c + a) / 4294967296, by omega, by omega, by simp [ho], ?_⟩, by simp only; omega, Weak_sub ⟨rfl, trivial⟩ ?_⟩
        · rw [← h, drop_at ha, drop_out (by omega : n.length ≤ i), drop_out (by omega : n.length ≤ i + 1), sumL, List.append_assoc]; rfl
        · simp [wkL, okTV, okAV]
    · by_cases hn : i < n.length
      · obtain ⟨b, hb⟩ := getElem?_of_lt hn
        have hb' := lmb_at ln hb
        (refine WpA_seq (WpA_sreg [] [] (by simp) fun K hK => ?_); simp (disch := omega) only [kc, prep1, Nat.reduceAdd, slU, Hm, opS_len, effR, ty_slice77, ls_len, effM, evBin, decF, stS_guard, decT, ifT, opS_pick]; (with_reducible refine hK _ ?_))
        refine WpA_cond rfl (fun _ => WpA_skip ?_) (fun h => by simp at h <;> omega)
        refine WpA_seq (WpA_block ?_)
        (refine WpA_seq (WpA_sreg [] [] (by simp) fun K hK => ?_); simp (disch := omega) only [kc, prep1, Nat.reduceAdd, opS_len, effR, ty_slice77, ls_len, effM, evBin, decF]; (with_reducible refine hK _ ?_))
        refine WpA_cond rfl (fun h => by simp at h <;> omega) (fun _ => WpA_skip ?_)
        show WpA _ _ _ _
        (refine WpA_seq (WpA_sreg [] [] (by simp) fun K hK => ?_); simp (disch := omega) only [kc, prep1, Nat.reduceAdd, opS_len, effR, ty_slice77, ls_len, effM, evBin, decT]; (with_reducible refine hK _ ?_))
        refine WpA_cond rfl (fun _ => ?_) (fun h => by simp at h <;> omega)
        ((refine WpA_lreg [] [] (by simp) fun K hK => ?_); simp (disch := omega) only [kc, prep1, Nat.reduceAdd, opS_indexAddr, effR, natOf_pos, ty_slice77, ls_get, hb, fU, ty_sz154, packT, ty_agg154, opS_conv, effM, Tryz.underlying154, ty_int35, wrapU, evBin]; (with_reducible refine hK _ ?_))
        show WpA _ _ _ _
        have e1 : IntKind.u32.wrap ((c : Int) + (b : Int)) = (((c + b) % 4294967296 : Nat) : Int) := by rw [← w32]; congr 1 <;> omega
        have e2 : Int.fdiv ((c : Int) + (b : Int)) (2 ^ (min 32 IntKind.u64.bits)) = (((c + b) / 4294967296 : Nat) : Int) := by rw [← s32]; congr 1 <;> omega
        (refine WpA_sreg [] [] (by simp) fun K hK => ?_; simp (disch := omega) only [kc, prep1, Nat.reduceAdd, opS_conv, effM, Tryz.underlying35, ty_int154, e1, opS_buildSlice, newS, effA, ty_slice77, ty_zero154, ty_sz154, litA, cellsOf, isPure, Nat.reduceMul, Nat.reduceLeDiff, List.contains_nil, unP, ifT, opS_append, appS, effD, newsOf, ty_by154, lc_allp, lc_len, allcons, allnil, and_true, killO, lc_kill, lcU_snoc, wrS, killTV, killAV]; (with_reducible refine hK _ ?_))
        ((refine WpA_lreg [] [] (by simp) fun K hK => ?_); simp (disch := omega) only [kc, prep1, Nat.reduceAdd, effM, ofConst, Value.oneCell', evBin, Int.reduceLE, Int.reduceToNat, e2]; (with_reducible refine hK _ ?_))
        show WpA _ _ _ _
        ((refine WpA_lreg [] [] (by simp) fun K hK => ?_); simp (disch := omega) only [kc, prep1, Nat.reduceAdd, effM, ofConst, Value.oneCell', evBin, wrapI]; (with_reducible refine hK _ ?_))
        refine ⟨⟨i + 1, o ++ [(c + b) % 4294967296], (c + b) / 4294967296, by omega, by omega, by simp [ho], ?_⟩, by simp only; omega, Weak_sub ⟨rfl, trivial⟩ ?_⟩
        · rw [← h, drop_at hb, drop_out (by omega : m.length ≤ i), drop_out (by omega : m.length ≤ i + 1), sumL, List.append_assoc]; rfl
        · simp [wkL, okTV, okAV]
      · (refine WpA_seq (WpA_sreg [] [] (by simp) fun K hK => ?_); simp (disch := omega) only [kc, prep1, Nat.reduceAdd, slU, Hm, opS_len, effR, ty_slice77, ls_len, effM, evBin, decF, stS_guard, ifT, opS_pick]; (with_reducible refine hK _ ?_))
        refine WpA_cond rfl (fun h => by simp at h <;> omega) (fun _ => WpA_exit ?_)
        show WpA _ _ _ _
        have e1 : IntKind.u32.wrap (c : Int) = (c : Int) := by rw [w32]; omega
        (refine WpA_sreg [] [] (by simp) fun K hK => ?_; simp (disch := omega) only [kc, prep1, Nat.reduceAdd, opS_conv, effM, Tryz.underlying35, ty_int154, e1, opS_buildSlice, newS, effA, ty_slice77, ty_zero154, ty_sz154, litA, cellsOf, isPure, Nat.reduceMul, Nat.reduceLeDiff, List.contains_nil, unP, ifT, opS_append, appS, effD, newsOf, ty_by154, lc_allp, lc_len, allcons, allnil, and_true, killO, lc_kill, lcU_snoc, wrS, killTV, killAV]; (with_reducible refine hK _ ?_))
        have hfin : sumL m n 0 = o ++ [c] := by rw [← h, drop_out (by omega : m.length ≤ i), drop_out (by omega : n.length ≤ i), sumL]
        (refine WpA_ret ⟨.inr rfl, ret_fz 46 (fzOk_one rfl) ?_ rfl⟩; simp (disch := omega) only [kc, resA, Tryz.results167, resOne, fzTV, fzAV, updH, ifT, lc_take, lc_cellF, slU])
        simp only [hfin]
        rw [List.take_of_length_le (by simp)]
def diffL : List Nat → List Nat → Nat → List Nat
  | [], _, _ => []
  | a :: m, [], w => (a + 8589934592 - w) % 4294967296 :: diffL m [] (if a < w then 1 else 0)
  | a :: m, b :: n, w => (a + 8589934592 - (w + b)) % 4294967296 :: diffL m n (if a < w + b then 1 else 0)
theorem natV_diffL : ∀ (m n : List Nat) (w : Nat), Lmb m → Lmb n → w ≤ 1 → n.length ≤ m.length → natV n + w ≤ natV m → natV (diffL m n w) + (natV n + w) = natV m
  | [], [], w, _, _, _, _, h => by simp [diffL, natV] at *; omega
  | [], b :: n, w, _, _, _, h, _ => by simp at h
  | a :: m, [], w, hm, hn, hw, hl, h => by
    rw [lmb_cons] at hm
    simp only [natV] at h
    have := natV_diffL m [] (if a < w then 1 else 0) hm.2 hn (by split <;> omega) (by simp) (by simp only [natV]; split <;> omega)
    simp only [diffL, natV] at this ⊢
    split at this <;> rename_i hlt <;> simp only [hlt, if_true, if_false] <;> omega
  | a :: m, b :: n, w, hm, hn, hw, hl, h => by
    rw [lmb_cons] at hm hn
    simp only [natV] at h
    have := natV_diffL m n (if a < w + b then 1 else 0) hm.2 hn.2 (by split <;> omega) (by simpa using hl) (by split <;> omega)
    simp only [diffL, natV] at this ⊢
    split at this <;> rename_i hlt <;> simp only [hlt, if_true, if_false] <;> omega
theorem lmb_diffL : ∀ (m n : List Nat) (w : Nat), Lmb (diffL m n w)
  | [], n, w => by simp [diffL, Lmb]
  | a :: m, [], w => by rw [diffL, lmb_cons]; exact ⟨Nat.mod_lt _ (by omega), lmb_diffL m [] _⟩
  | a :: m, b :: n, w => by rw [diffL, lmb_cons]; exact ⟨Nat.mod_lt _ (by omega), lmb_diffL m n _⟩
theorem diffL_len : ∀ (m n : List Nat) (w : Nat), (diffL m n w).length = m.length
  | [], n, w => by simp [diffL]
  | a :: m, [], w => by simp [diffL, diffL_len m []]
  | a :: m, b :: n, w => by simp [diffL, diffL_len m n]
structure DifG (m n : List Nat) where
  i : Nat
  o : List Nat
  c : Nat
  hi : i ≤ m.length
  hc : c ≤ 1
  ho : o.length = i
  h : o ++ diffL (m.drop i) (n.drop i) c = diffL m n 0
set_option maxRecDepth 100000 in
set_option maxHeartbeats 2000000 in
theorem difference_C (m n : List Nat) (lm : Lmb m) (ln : Lmb n) (bm : m.length ≤ 1073741824) (bn : n.length ≤ 1073741824) :
    CallC Tryz.prog 168 [slU m, slU n] ⟨[], slU (diffL m n 0)⟩ := by
  refine callC_of Tryz.func168 rfl (by kernel_rfl) ?_; rw [Tryz.ntmps168]
  (refine WpA_sreg [] [] (by simp) fun K hK => ?_; simp (disch := omega) only [kc, prep1, slU, Nat.reduceAdd, List.replicate, ofConst, Value.oneCell']; (with_reducible refine hK _ ?_))
  (refine WpA_sreg [] [] (by simp) fun K hK => ?_; simp (disch := omega) only [kc, prep1, ofConst, Value.oneCell']; (with_reducible refine hK _ ?_))
  (refine WpA_sreg [] [] (by simp) fun K hK => ?_; simp (disch := omega) only [kc, prep1, ofConst, Value.oneCell']; (with_reducible refine hK _ ?_))
  (refine WpA_seq (WpA_sreg [] [] (by simp) fun K hK => ?_); simp (disch := omega) only [kc, prep1, ofConst, Value.oneCell']; (with_reducible refine hK _ ?_))
  refine WpA_forb (G := DifG m n) (fun g => ⟨[slU m, slU n, jk, jk, .raw (.slice none 0 0), .one (.sl 37 0 0 g.o.length), .raw (.int .u64 (g.c : Int)), .raw (.int .i64 (g.i : Int)), jk, jk, jk, jk, jk, jk, jk, jk, jk, jk, jk, jk, jk, jk, jk, jk, jk, jk, jk, jk, jk, jk, jk, jk, jk, jk, jk, jk, jk, jk, jk, jk, jk, jk, jk, jk, jk, jk], Hm [(37, [⟨154, 1, lc fU g.o⟩])]⟩) (fun g => m.length - g.i) ⟨0, [], 0, by omega, by omega, rfl, rfl⟩ ?_ ?_
  · refine (Weak_nil (k := 5) (d := 37) 154 1 (by omega) rfl rfl).trans (Weak_sub ⟨rfl, trivial⟩ ?_)
    simp [wkL, okTV, okAV]
  · rintro ⟨i, o, c, hi, hc, ho, h⟩
    simp only
    by_cases hm : i < m.length
    · obtain ⟨a, ha⟩ := getElem?_of_lt hm
      have ha' := lmb_at lm ha
      (refine WpA_seq (WpA_sreg [] [] (by simp) fun K hK => ?_); simp (disch := omega) only [kc, prep1, Nat.reduceAdd, slU, Hm, opS_len, effR, ty_slice77, ls_len, effM, evBin, decT]; (with_reducible refine hK _ ?_))
      refine WpA_cond rfl (fun _ => WpA_skip ?_) (fun h => by simp at h <;> omega)
      refine WpA_seq (WpA_block ?_)
      (refine WpA_sreg [] [] (by simp) fun K hK => ?_; simp (disch := omega) only [kc, prep1]; (with_reducible refine hK _ ?_))
      (refine WpA_seq (WpA_sreg [] [] (by simp) fun K hK => ?_); simp (disch := omega) only [kc, prep1, Nat.reduceAdd, opS_len, effR, ty_slice77, ls_len, effM, evBin]; (with_reducible refine hK _ ?_))
      by_cases hn : i < n.length
      · obtain ⟨b, hb⟩ := getElem?_of_lt hn
        have hb' := lmb_at ln hb
        refine WpA_cond rfl (fun _ => ?_) (fun h => by simp at h <;> omega)
        ((refine WpA_lreg [] [] (by simp) fun K hK => ?_); simp (disch := omega) only [kc, prep1, Nat.reduceAdd, decT, opS_indexAddr, effR, natOf_pos, ty_slice77, ls_get, hb, fU, ty_sz154, packT, ty_agg154, opS_conv, effM, Tryz.underlying154, ty_int35, wrapU, evBin]; (with_reducible refine hK _ ?_))
        show WpA _ _ _ _
        have e1 : IntKind.u32.wrap (IntKind.u64.wrap ((a : Int) - ((c : Int) + (b : Int)))) = (((a + 8589934592 - (c + b)) % 4294967296 : Nat) : Int) := by rw [IntKind.wrap_u32, IntKind.wrap_u64]; omega
        (refine WpA_sreg [] [] (by simp) fun K hK => ?_; simp (disch := omega) only [kc, prep1, Nat.reduceAdd, opS_indexAddr, effR, natOf_pos, ty_slice77, ls_get, ha, fU, ty_sz154, packT, ty_agg154, opS_conv, effM, Tryz.underlying154, ty_int35, wrapU, evBin, Tryz.underlying35, ty_int154, e1, opS_buildSlice, newS, effA, ty_zero154, litA, cellsOf, isPure, Nat.reduceMul, Nat.reduceLeDiff, List.contains_nil, unP, ifT, opS_append, appS, effD, newsOf, ty_by154, lc_allp, lc_len, allcons, allnil, and_true, killO, lc_kill, lcU_snoc, wrS, killTV, killAV]; (with_reducible refine hK _ ?_))
        (refine WpA_sreg [] [] (by simp) fun K hK => ?_; simp (disch := omega) only [kc, prep1, ofConst, Value.oneCell']; (with_reducible refine hK _ ?_))
        (refine WpA_sreg [] [] (by simp) fun K hK => ?_; simp (disch := omega) only [kc, prep1, Nat.reduceAdd, opS_indexAddr, effR, natOf_pos, ty_slice77, ls_get, ha, fU, ty_sz154, packT, ty_agg154, opS_conv, effM, Tryz.underlying154, ty_int35, wrapU, evBin]; (with_reducible refine hK _ ?_))
        by_cases hlt : a < c + b
        · refine WpA_cond rfl (fun _ => ?_) (fun h => by simp at h <;> omega)
          ((refine WpA_lreg [] [] (by simp) fun K hK => ?_); simp (disch := omega) only [kc, prep1, decT, ofConst, Value.oneCell']; (with_reducible refine hK _ ?_))
          show WpA _ _ _ _
          ((refine WpA_lreg [] [] (by simp) fun K hK => ?_); simp (disch := omega) only [kc, prep1, Nat.reduceAdd, effM, ofConst, Value.oneCell', evBin, wrapI]; (with_reducible refine hK _ ?_))
          refine ⟨⟨i + 1, o ++ [(a + 8589934592 - (c + b)) % 4294967296], 1, by omega, by omega, by simp [ho], ?_⟩, by simp only; omega, Weak_sub ⟨rfl, trivial⟩ ?_⟩
          · rw [← h, drop_at ha, drop_at hb, diffL, List.append_assoc, if_pos hlt]; rfl
          · simp [wkL, okTV, okAV]
        · refine WpA_cond rfl (fun h => by simp at h <;> omega) (fun _ => WpA_skip ?_)
          show WpA _ _ _ _
          ((refine WpA_lreg [] [] (by simp) fun K hK => ?_); simp (disch := omega) only [kc, prep1, Nat.reduceAdd, wrapU, decF, effM, ofConst, Value.oneCell', evBin, wrapI]; (with_reducible refine hK _ ?_))
          refine ⟨⟨i + 1, o ++ [(a + 8589934592 - (c + b)) % 4294967296], 0, by omega, by omega, by simp [ho], ?_⟩, by simp only; omega, Weak_sub ⟨rfl, trivial⟩ ?_⟩
          · rw [← h, drop_at ha, drop_at hb, diffL, List.append_assoc, if_neg hlt]; rfl
          · simp [wkL, okTV, okAV]
      · refine WpA_cond rfl (fun h => by simp at h <;> omega) (fun _ => WpA_skip ?_)
        show WpA _ _ _ _
        have e1 : IntKind.u32.wrap (IntKind.u64.wrap ((a : Int) - (c : Int))) = (((a + 8589934592 - c) % 4294967296 : Nat) : Int) := by rw [IntKind.wrap_u32, IntKind.wrap_u64]; omega
        (refine WpA_sreg [] [] (by simp) fun K hK => ?_; simp (disch := omega) only [kc, prep1, Nat.reduceAdd, decF, opS_indexAddr, effR, natOf_pos, ty_slice77, ls_get, ha, fU, ty_sz154, packT, ty_agg154, opS_conv, effM, Tryz.underlying154, ty_int35, wrapU, evBin, Tryz.underlying35, ty_int154, e1, opS_buildSlice, newS, effA, ty_zero154, litA, cellsOf, isPure, Nat.reduceMul, Nat.reduceLeDiff, List.contains_nil, unP, ifT, opS_append, appS, effD, newsOf, ty_by154, lc_allp, lc_len, allcons, allnil, and_true, killO, lc_kill, lcU_snoc, wrS, killTV, killAV]; (with_reducible refine hK _ ?_))
        (refine WpA_sreg [] [] (by simp) fun K hK => ?_; simp (disch := omega) only [kc, prep1, ofConst, Value.oneCell']; (with_reducible refine hK _ ?_))
        (refine WpA_sreg [] [] (by simp) fun K hK => ?_; simp (disch := omega) only [kc, prep1, Nat.reduceAdd, opS_indexAddr, effR, natOf_pos, ty_slice77, ls_get, ha, fU, ty_sz154, packT, ty_agg154, opS_conv, effM, Tryz.underlying154, ty_int35, wrapU, evBin]; (with_reducible refine hK _ ?_))
        by_cases hlt : a < c
        · refine WpA_cond rfl (fun _ => ?_) (fun h => by simp at h <;> omega)
          ((refine WpA_lreg [] [] (by simp) fun K hK => ?_); simp (disch := omega) only [kc, prep1, decT, ofConst, Value.oneCell']; (with_reducible refine hK _ ?_))
          show WpA _ _ _ _
          ((refine WpA_lreg [] [] (by simp) fun K hK => ?_); simp (disch := omega) only [kc, prep1, Nat.reduceAdd, effM, ofConst, Value.oneCell', evBin, wrapI]; (with_reducible refine hK _ ?_))
          refine ⟨⟨i + 1, o ++ [(a + 8589934592 - c) % 4294967296], 1, by omega, by omega, by simp [ho], ?_⟩, by simp only; omega, Weak_sub ⟨rfl, trivial⟩ ?_⟩
          · rw [← h, drop_at ha, drop_out (by omega : n.length ≤ i), drop_out (by omega : n.length ≤ i + 1), diffL, List.append_assoc, if_pos hlt]; rfl
          · simp [wkL, okTV, okAV]
        · refine WpA_cond rfl (fun h => by simp at h <;> omega) (fun _ => WpA_skip ?_)
          show WpA _ _ _ _
          ((refine WpA_lreg [] [] (by simp) fun K hK => ?_); simp (disch := omega) only [kc, prep1, Nat.reduceAdd, wrapU, decF, effM, ofConst, Value.oneCell', evBin, wrapI]; (with_reducible refine hK _ ?_))
          refine ⟨⟨i + 1, o ++ [(a + 8589934592 - c) % 4294967296], 0, by omega, by omega, by simp [ho], ?_⟩, by simp only; omega, Weak_sub ⟨rfl, trivial⟩ ?_⟩
          · rw [← h, drop_at ha, drop_out (by omega : n.length ≤ i), drop_out (by omega : n.length ≤ i + 1), diffL, List.append_assoc, if_neg hlt]; rfl
          · simp [wkL, okTV, okAV]
    · (refine WpA_seq (WpA_sreg [] [] (by simp) fun K hK => ?_); simp (disch := omega) only [kc, prep1, Nat.reduceAdd, slU, Hm, opS_len, effR, ty_slice77, ls_len, effM, evBin, decF]; (with_reducible refine hK _ ?_))
      refine WpA_cond rfl (fun h => by simp at h <;> omega) (fun _ => WpA_exit ?_)
      show WpA _ _ _ _
      (refine WpA_sreg [] [] (by simp) fun K hK => ?_; simp (disch := omega) only [kc, prep1]; (with_reducible refine hK _ ?_))
      have hfin : diffL m n 0 = o := by rw [← h, drop_out (by omega : m.length ≤ i), diffL]; simp
      (refine WpA_ret ⟨.inr rfl, ret_fz 37 (fzOk_one rfl) ?_ rfl⟩; simp (disch := omega) only [kc, resA, Tryz.results168, resOne, fzTV, fzAV, ifT, lc_take, lc_cellF, slU])
      simp only [hfin]
      rw [List.take_of_length_le (by simp)]
end Go.Proofs.YtobnpabndpmabaaGreat
namespace Go.Proofs.YtobnpabndpmabaaGreat
open Go.RowKit
abbrev Bh (z : Int) : Prop := Sz z 536870912
theorem Bh.bg {z : Int} (h : Bh z) : Bg z := h.mono (by omega)
theorem Bh.len {z : Int} (h : Bh z) : (limbs z.natAbs).length ≤ 536870912 := limbs_len h
theorem Sz.neg {z : Int} {k : Nat} (h : Sz z k) : Sz (-z) k := by unfold Sz; rw [Int.natAbs_neg]; exact h
theorem Bh.neg {z : Int} (h : Bh z) : Bh (-z) := Sz.neg h
theorem add_same {a b : Int} (h : decide (a < 0) = decide (b < 0)) : sgn (decide (a < 0)) (a.natAbs + b.natAbs) = a + b := by
  unfold sgn
  by_cases ha : a < 0 <;> by_cases hb : b < 0 <;> simp [ha, hb] at h ⊢ <;> omega
theorem add_diff {a b : Int} (h : decide (a < 0) ≠ decide (b < 0)) (hle : b.natAbs ≤ a.natAbs) {d : Nat} (hd : d + (b.natAbs + 0) = a.natAbs) : sgn (decide (a < 0)) d = a + b := by
  unfold sgn
  by_cases ha : a < 0 <;> by_cases hb : b < 0 <;> simp [ha, hb] at h ⊢ <;> omega
theorem natV_le_len {l m : List Nat} (hl : Lmb l) (cm : Can m) (h : natV m ≤ natV l) : m.length ≤ l.length := by
  by_cases hc : m.length ≤ l.length
  · exact hc
  · have := natV_lt_len hl cm (by omega)
    omega
set_option maxRecDepth 100000 in
set_option maxHeartbeats 2000000 in
theorem Add_C (a b : Int) (ha : Bh a) (hb : Bh b) : CallC Tryz.prog 147 [tZ a, tZ b] ⟨[], tZ (a + b)⟩ := by
  have la := ha.len
  have lb := hb.len
  have t1 := trim_C (limbs a.natAbs) ha.bg.len
  have t2 := trim_C (limbs b.natAbs) hb.bg.len
  rw [trim_id] at t1 t2
  by_cases hs : decide (a < 0) = decide (b < 0)
  · have h3 := sum_C (limbs a.natAbs) (limbs b.natAbs) (lmb_limbs _) (lmb_limbs _) (by omega) (by omega)
    have h4 := make_C (decide (a < 0)) (sumL (limbs a.natAbs) (limbs b.natAbs) 0) (lmb_sumL _ _ _ (lmb_limbs _) (lmb_limbs _) (by omega)) (by rw [sumL_len]; omega)
    rw [natV_sumL, natV_limbs, natV_limbs, Nat.add_zero, add_same hs] at h4
    have hs' : (decide (a < 0) == decide (b < 0)) = true := by simp [hs]
    refine callC_of Tryz.func147 rfl (by kernel_rfl) ?_; rw [Tryz.ntmps147]
    (refine WpA_sreg [] [] (by simp) fun K hK => ?_; simp (disch := omega) only [kc, prep1, Nat.reduceAdd, tZ, List.replicate, opS_box, newS, effA, cellsOf, isPure, ifT, updH, Nat.reduceEqDiff, opS_alloc, ty_zero79, Value.oneCell', ifF]; (with_reducible refine hK _ ?_))
    (refine WpA_sdraw mixedA [⟨2, _, _, _, t1⟩, ⟨5, _, _, _, t2⟩] [] (by kernel_rfl) (by simp) fun K hK => ?_; simp (disch := omega) only [kc, slU, CItem.a, prep1, Nat.reduceAdd, opS_fieldAddr, effR, ty_fld79_1, ty_sz77, updH, Nat.reduceEqDiff, ifF, packT, ty_agg77, opS_call, newS, effA, List.find?_cons, evAll, norm, CallRes.plain, rawTV, rawAV, normOk, noRefTV, noRefAV, renTV, renAV, Nat.reduceBEq]; (with_reducible refine hK _ ?_))
    (refine WpA_seq (WpA_sreg [] [] (by simp) fun K hK => ?_); simp (disch := omega) only [kc, prep1, Nat.reduceAdd, opS_fieldAddr, effR, ty_fld79_0, ty_sz4, Nat.add_zero, updH, Nat.reduceEqDiff, ifF, packT, ty_agg4, effM, evBin, ty_bool4, hs']; (with_reducible refine hK _ ?_))
    refine WpA_cond rfl (fun _ => ?_) (fun h => by simp at h)
    (refine WpA_sdraw mixedA [⟨4, _, _, _, h3⟩, ⟨5, _, _, _, h4⟩] [] (by kernel_rfl) (by simp) fun K hK => ?_; simp (disch := omega) only [kc, slU, tZ, CItem.a, prep1, Nat.reduceAdd, opS_fieldAddr, effR, ty_fld79_0, ty_sz4, Nat.add_zero, updH, Nat.reduceEqDiff, ifF, packT, ty_agg4, opS_call, newS, effA, List.find?_cons, evAll, norm, CallRes.plain, rawTV, rawAV, normOk, noRefTV, noRefAV, renTV, renAV, Nat.reduceBEq, opS_store, wrS, effD, ty_sz79, cellsOf, Nat.le_refl, isPure, ifT, putCells, killTV, killAV]; (with_reducible refine hK _ ?_))
    (refine WpA_ret ⟨.inr rfl, ret_now rfl ?_ rfl⟩; simp (disch := omega) only [kc, resA, Tryz.results147, resOne, updH, Nat.reduceEqDiff, ifF, packT, ty_sz79, ty_agg79, Nat.reduceAdd, Nat.le_refl, tZ])
  · have hs' : (decide (a < 0) == decide (b < 0)) = false := by simpa using hs
    have h3 := cmp_C (limbs a.natAbs) (limbs b.natAbs) (lmb_limbs _) (lmb_limbs _) (can_limbs _) (can_limbs _) (by omega) (by omega)
    rw [natV_limbs, natV_limbs] at h3
    by_cases hle : b.natAbs ≤ a.natAbs
    · have hge : 0 ≤ cmpU a.natAbs b.natAbs := by unfold cmpU; split <;> (try split) <;> omega
      have h4 := difference_C (limbs a.natAbs) (limbs b.natAbs) (lmb_limbs _) (lmb_limbs _) (by omega) (by omega)
      have h5 := make_C (decide (a < 0)) (diffL (limbs a.natAbs) (limbs b.natAbs) 0) (lmb_diffL _ _ _) (by rw [diffL_len]; omega)
      have hd := natV_diffL (limbs a.natAbs) (limbs b.natAbs) 0 (lmb_limbs _) (lmb_limbs _) (by omega) (natV_le_len (lmb_limbs _) (can_limbs _) (by rw [natV_limbs, natV_limbs]; exact hle)) (by rw [natV_limbs, natV_limbs]; exact hle)
      rw [natV_limbs, natV_limbs] at hd
      rw [add_diff hs hle hd] at h5
      refine callC_of Tryz.func147 rfl (by kernel_rfl) ?_; rw [Tryz.ntmps147]
      (refine WpA_sreg [] [] (by simp) fun K hK => ?_; simp (disch := omega) only [kc, prep1, Nat.reduceAdd, tZ, List.replicate, opS_box, newS, effA, cellsOf, isPure, ifT, updH, Nat.reduceEqDiff, opS_alloc, ty_zero79, Value.oneCell', ifF]; (with_reducible refine hK _ ?_))
      (refine WpA_sdraw mixedA [⟨2, _, _, _, t1⟩, ⟨5, _, _, _, t2⟩] [] (by kernel_rfl) (by simp) fun K hK => ?_; simp (disch := omega) only [kc, slU, CItem.a, prep1, Nat.reduceAdd, opS_fieldAddr, effR, ty_fld79_1, ty_sz77, updH, Nat.reduceEqDiff, ifF, packT, ty_agg77, opS_call, newS, effA, List.find?_cons, evAll, norm, CallRes.plain, rawTV, rawAV, normOk, noRefTV, noRefAV, renTV, renAV, Nat.reduceBEq]; (with_reducible refine hK _ ?_))
      (refine WpA_seq (WpA_sreg [] [] (by simp) fun K hK => ?_); simp (disch := omega) only [kc, prep1, Nat.reduceAdd, opS_fieldAddr, effR, ty_fld79_0, ty_sz4, Nat.add_zero, updH, Nat.reduceEqDiff, ifF, packT, ty_agg4, effM, evBin, ty_bool4, hs']; (with_reducible refine hK _ ?_))
      refine WpA_cond rfl (fun h => by simp at h) (fun _ => WpA_skip ?_)
      show WpA _ _ _ _
      (refine WpA_seq (WpA_sreg [⟨2, _, _, _, h3⟩] [] (by simp) fun K hK => ?_); simp (disch := omega) only [kc, slU, CItem.a, prep1, Nat.reduceAdd, opS_call, newS, effA, List.find?_cons, evAll, norm, CallRes.plain, rawTV, rawAV, normOk, noRefTV, noRefAV, renTV, renAV, effM, ofConst, Value.oneCell', evBin, decT]; (with_reducible refine hK _ ?_))
      refine WpA_cond rfl (fun _ => ?_) (fun h => by simp at h <;> omega)
      (refine WpA_sdraw mixedA [⟨4, _, _, _, h4⟩, ⟨5, _, _, _, h5⟩] [] (by kernel_rfl) (by simp) fun K hK => ?_; simp (disch := omega) only [kc, slU, tZ, CItem.a, prep1, Nat.reduceAdd, opS_fieldAddr, effR, ty_fld79_0, ty_sz4, Nat.add_zero, updH, Nat.reduceEqDiff, ifF, packT, ty_agg4, opS_call, newS, effA, List.find?_cons, evAll, norm, CallRes.plain, rawTV, rawAV, normOk, noRefTV, noRefAV, renTV, renAV, Nat.reduceBEq, opS_store, wrS, effD, ty_sz79, cellsOf, Nat.le_refl, isPure, ifT, putCells, killTV, killAV]; (with_reducible refine hK _ ?_))
      (refine WpA_ret ⟨.inr rfl, ret_now rfl ?_ rfl⟩; simp (disch := omega) only [kc, resA, Tryz.results147, resOne, updH, Nat.reduceEqDiff, ifF, packT, ty_sz79, ty_agg79, Nat.reduceAdd, Nat.le_refl, tZ])
    · have hge : cmpU a.natAbs b.natAbs < 0 := by unfold cmpU; split <;> (try split) <;> omega
      have h4 := difference_C (limbs b.natAbs) (limbs a.natAbs) (lmb_limbs _) (lmb_limbs _) (by omega) (by omega)
      have h5 := make_C (decide (b < 0)) (diffL (limbs b.natAbs) (limbs a.natAbs) 0) (lmb_diffL _ _ _) (by rw [diffL_len]; omega)
      have hd := natV_diffL (limbs b.natAbs) (limbs a.natAbs) 0 (lmb_limbs _) (lmb_limbs _) (by omega) (natV_le_len (lmb_limbs _) (can_limbs _) (by rw [natV_limbs, natV_limbs]; omega)) (by rw [natV_limbs, natV_limbs]; omega)
      rw [natV_limbs, natV_limbs] at hd
      rw [add_diff (fun h => hs h.symm) (by omega) hd, Int.add_comm] at h5
      refine callC_of Tryz.func147 rfl (by kernel_rfl) ?_; rw [Tryz.ntmps147]
      (refine WpA_sreg [] [] (by simp) fun K hK => ?_; simp (disch := omega) only [kc, prep1, Nat.reduceAdd, tZ, List.replicate, opS_box, newS, effA, cellsOf, isPure, ifT, updH, Nat.reduceEqDiff, opS_alloc, ty_zero79, Value.oneCell', ifF]; (with_reducible refine hK _ ?_))
      (refine WpA_sdraw mixedA [⟨2, _, _, _, t1⟩, ⟨5, _, _, _, t2⟩] [] (by kernel_rfl) (by simp) fun K hK => ?_; simp (disch := omega) only [kc, slU, CItem.a, prep1, Nat.reduceAdd, opS_fieldAddr, effR, ty_fld79_1, ty_sz77, updH, Nat.reduceEqDiff, ifF, packT, ty_agg77, opS_call, newS, effA, List.find?_cons, evAll, norm, CallRes.plain, rawTV, rawAV, normOk, noRefTV, noRefAV, renTV, renAV, Nat.reduceBEq]; (with_reducible refine hK _ ?_))
      (refine WpA_seq (WpA_sreg [] [] (by simp) fun K hK => ?_); simp (disch := omega) only [kc, prep1, Nat.reduceAdd, opS_fieldAddr, effR, ty_fld79_0, ty_sz4, Nat.add_zero, updH, Nat.reduceEqDiff, ifF, packT, ty_agg4, effM, evBin, ty_bool4, hs']; (with_reducible refine hK _ ?_))
      refine WpA_cond rfl (fun h => by simp at h) (fun _ => WpA_skip ?_)
      show WpA _ _ _ _
      (refine WpA_seq (WpA_sreg [⟨2, _, _, _, h3⟩] [] (by simp) fun K hK => ?_); simp (disch := omega) only [kc, slU, CItem.a, prep1, Nat.reduceAdd, opS_call, newS, effA, List.find?_cons, evAll, norm, CallRes.plain, rawTV, rawAV, normOk, noRefTV, noRefAV, renTV, renAV, effM, ofConst, Value.oneCell', evBin, decF]; (with_reducible refine hK _ ?_))
      refine WpA_cond rfl (fun h => by simp at h <;> omega) (fun _ => WpA_skip ?_)
      show WpA _ _ _ _
      (refine WpA_sdraw mixedA [⟨4, _, _, _, h4⟩, ⟨5, _, _, _, h5⟩] [] (by kernel_rfl) (by simp) fun K hK => ?_; simp (disch := omega) only [kc, slU, tZ, CItem.a, prep1, Nat.reduceAdd, opS_fieldAddr, effR, ty_fld79_0, ty_sz4, Nat.add_zero, updH, Nat.reduceEqDiff, ifF, packT, ty_agg4, opS_call, newS, effA, List.find?_cons, evAll, norm, CallRes.plain, rawTV, rawAV, normOk, noRefTV, noRefAV, renTV, renAV, Nat.reduceBEq, opS_store, wrS, effD, ty_sz79, cellsOf, Nat.le_refl, isPure, ifT, putCells, killTV, killAV]; (with_reducible refine hK _ ?_))
      (refine WpA_ret ⟨.inr rfl, ret_now rfl ?_ rfl⟩; simp (disch := omega) only [kc, resA, Tryz.results147, resOne, updH, Nat.reduceEqDiff, ifF, packT, ty_sz79, ty_agg79, Nat.reduceAdd, Nat.le_refl, tZ])
set_option maxRecDepth 100000 in
set_option maxHeartbeats 2000000 in
theorem Sub_C (a b : Int) (ha : Bh a) (hb : Bh b) : CallC Tryz.prog 139 [tZ a, tZ b] ⟨[], tZ (a - b)⟩ := by
  have h1 := neg_C b hb.bg
  have h2 := Add_C a (-b) ha hb.neg
  rw [← Int.sub_eq_add_neg] at h2
  refine callC_of Tryz.func139 rfl (by kernel_rfl) ?_; rw [Tryz.ntmps139]
  (refine WpA_sreg [] [] (by simp) fun K hK => ?_; simp (disch := omega) only [kc, prep1, Nat.reduceAdd, tZ, List.replicate, opS_box, newS, effA, cellsOf, isPure, ifT, updH, Nat.reduceEqDiff, opS_alloc, ty_zero79, Value.oneCell', ifF]; (with_reducible refine hK _ ?_))
  (refine WpA_sdraw mixedA [⟨2, _, _, _, h1⟩, ⟨3, _, _, _, h2⟩] [] (by kernel_rfl) (by simp) fun K hK => ?_; simp (disch := omega) only [kc, tZ, CItem.a, prep1, Nat.reduceAdd, effR, updH, Nat.reduceEqDiff, ifF, packT, ty_sz79, ty_agg79, Nat.le_refl, opS_call, newS, effA, List.find?_cons, evAll, norm, CallRes.plain, rawTV, rawAV, normOk, isPure, noRefTV, noRefAV, renTV, renAV, Nat.reduceBEq, opS_store, wrS, effD, cellsOf, ifT, putCells, killTV, killAV]; (with_reducible refine hK _ ?_))
  (refine WpA_ret ⟨.inr rfl, ret_now rfl ?_ rfl⟩; simp (disch := omega) only [kc, resA, Tryz.results139, resOne, updH, Nat.reduceEqDiff, ifF, packT, ty_sz79, ty_agg79, Nat.reduceAdd, Nat.le_refl, tZ])
end Go.Proofs.YtobnpabndpmabaaGreat
namespace Go.Proofs.YtobnpabndpmabaaGreat
open Go.RowKit
theorem natV_set : ∀ (l : List Nat) (k v o : Nat), l[k]? = some o → natV (l.set k v) + o * 4294967296 ^ k = natV l + v * 4294967296 ^ k
  | [], k, v, o, h => by simp at h
  | a :: l, 0, v, o, h => by simp at h; subst h; simp [natV]; omega
  | a :: l, k + 1, v, o, h => by
    simp at h
    have := natV_set l k v o h
    simp only [List.set_cons_succ, natV, Nat.pow_succ]
    have e1 : o * (4294967296 ^ k * 4294967296) = 4294967296 * (o * 4294967296 ^ k) := by rw [← Nat.mul_assoc, Nat.mul_comm]
    have e2 : v * (4294967296 ^ k * 4294967296) = 4294967296 * (v * 4294967296 ^ k) := by rw [← Nat.mul_assoc, Nat.mul_comm]
    rw [e1, e2]
    omega
theorem lmb_set {l : List Nat} (h : Lmb l) {k v : Nat} (hv : v < 4294967296) : Lmb (l.set k v) := fun a ha => by
  rcases List.mem_or_eq_of_mem_set ha with ha | rfl
  · exact h a ha
  · exact hv
theorem natV_rep (n : Nat) : natV (List.replicate n 0) = 0 := by induction n with
  | zero => rfl
  | succ n ih => simp [List.replicate_succ, natV, ih]
theorem natV_take_succ {l : List Nat} {i a : Nat} (h : l[i]? = some a) : natV (l.take (i + 1)) = natV (l.take i) + a * 4294967296 ^ i := by
  obtain ⟨h1, rfl⟩ := List.getElem?_eq_some_iff.1 h
  rw [List.take_succ_eq_append_getElem h1, natV_append, List.length_take, Nat.min_eq_left (by omega)]
  simp [natV, Nat.mul_comm]
theorem lcU_rep (n : Nat) : List.replicate n [AV.p (.raw (.int .u32 0))] = lc fU (List.replicate n 0) := by simp [lc, fU]
theorem lcU_set (l : List Nat) (k v : Nat) : (lc fU l).set k [AV.p (.raw (.int .u32 (v : Int)))] = lc fU (l.set k v) := by simp [lc, fU, List.map_set]
structure MulO (A B : List Nat) where
  i : Nat
  O : List Nat
  hi : i ≤ A.length
  len : O.length = A.length + B.length
  lmb : Lmb O
  val : natV O = natV (A.take i) * natV B
  zero : ∀ k, i + B.length ≤ k → k < A.length + B.length → O[k]? = some 0
structure MulI (A B : List Nat) (i a : Nat) where
  j : Nat
  O : List Nat
  c : Nat
  hj : j ≤ B.length
  len : O.length = A.length + B.length
  lmb : Lmb O
  hc : c < 4294967296
  val : natV O + c * 4294967296 ^ (i + j) = natV (A.take i) * natV B + a * natV (B.take j) * 4294967296 ^ i
  zero : ∀ k, i + B.length ≤ k → k < A.length + B.length → O[k]? = some 0
theorem mul_bound {a b : Nat} (ha : a < 4294967296) (hb : b < 4294967296) : a * b ≤ 18446744065119617025 := by
  have : a * b ≤ 4294967295 * 4294967295 := Nat.mul_le_mul (by omega) (by omega)
  omega
theorem mulI_step {A B : List Nat} {i a : Nat} (g : MulI A B i a) {y o : Nat} (hy : B[g.j]? = some y) (ho : g.O[i + g.j]? = some o) (hi : i < A.length) (ha : a < 4294967296) (hy' : y < 4294967296) :
    ∃ g' : MulI A B i a, g'.j = g.j + 1 ∧ g'.O = g.O.set (i + g.j) ((g.c + (a * y + o)) % 4294967296) ∧ g'.c = (g.c + (a * y + o)) / 4294967296 := by
  have hjl : g.j < B.length := (List.getElem?_eq_some_iff.1 hy).1
  have ho' := lmb_at g.lmb ho
  have hb := mul_bound ha hy'
  have hc := g.hc
  refine ⟨⟨g.j + 1, g.O.set (i + g.j) ((g.c + (a * y + o)) % 4294967296), (g.c + (a * y + o)) / 4294967296, hjl, by simp [g.len], lmb_set g.lmb (Nat.mod_lt _ (by omega)), ?_, ?_, fun k h1 h2 => ?_⟩, rfl, rfl, rfl⟩
  · generalize a * y = p at *
    omega
  · have h1 := natV_set g.O (i + g.j) ((g.c + (a * y + o)) % 4294967296) o ho
    have h2 := natV_take_succ hy
    have h3 := g.val
    rw [h2, show i + (g.j + 1) = i + g.j + 1 by omega, Nat.pow_succ, Nat.mul_add a, Nat.add_mul]
    have e1 : a * (y * 4294967296 ^ g.j) * 4294967296 ^ i = a * y * 4294967296 ^ (i + g.j) := by
      rw [← Nat.mul_assoc, Nat.mul_assoc, ← Nat.pow_add, Nat.add_comm g.j i]
    rw [e1]
    generalize 4294967296 ^ (i + g.j) = X at *
    generalize a * y = p at *
    have e2 : (g.c + (p + o)) = (g.c + (p + o)) % 4294967296 + 4294967296 * ((g.c + (p + o)) / 4294967296) := (Nat.mod_add_div _ _).symm
    generalize hr : (g.c + (p + o)) % 4294967296 = r at *
    generalize hq : (g.c + (p + o)) / 4294967296 = q at *
    generalize natV (g.O.set (i + g.j) r) = N at *
    generalize natV g.O = M at *
    generalize natV (A.take i) * natV B = U at *
    generalize a * natV (B.take g.j) * 4294967296 ^ i = V at *
    -- N + o X = M + r X, M + c X = U + V, c + p + o = r + B q
    have e3 : g.c * X + (p * X + o * X) = r * X + q * (X * 4294967296) := by
      have := congrArg (· * X) e2
      simp only [Nat.add_mul] at this
      rw [this]
      congr 1
      rw [Nat.mul_comm 4294967296 q, Nat.mul_assoc, Nat.mul_comm 4294967296 X]
    omega
  · rw [List.getElem?_set_ne (by omega)]
    exact g.zero k h1 h2
theorem mulI_done {A B : List Nat} {i a : Nat} (hA : A[i]? = some a) (g : MulI A B i a) (hj : ¬ g.j < B.length) : ∃ g' : MulO A B, g'.i = i + 1 ∧ g'.O = g.O.set (i + B.length) g.c := by
  have hi := (List.getElem?_eq_some_iff.1 hA).1
  have hjl := g.hj
  have e : g.j = B.length := by omega
  have hz := g.zero (i + B.length) (Nat.le_refl _) (by omega)
  refine ⟨⟨i + 1, g.O.set (i + B.length) g.c, hi, by simp [g.len], lmb_set g.lmb g.hc, ?_, fun k h1 h2 => ?_⟩, rfl, rfl⟩
  · have h1 := natV_set g.O (i + B.length) g.c 0 hz
    have h2 := g.val
    rw [e, List.take_length] at h2
    rw [natV_take_succ hA, Nat.add_mul]
    have e1 : a * 4294967296 ^ i * natV B = a * natV B * 4294967296 ^ i := by rw [Nat.mul_assoc, Nat.mul_comm (4294967296 ^ i), ← Nat.mul_assoc]
    rw [e1]
    omega
  · rw [List.getElem?_set_ne (by omega)]
    exact g.zero k (by omega) h2
theorem mul_sgn (a b : Int) : sgn (!(decide (a < 0) == decide (b < 0))) (a.natAbs * b.natAbs) = a * b := by
  have h := Int.natAbs_mul a b
  unfold sgn
  rcases Int.lt_or_le a 0 with ha | ha <;> rcases Int.lt_or_le b 0 with hb | hb
  · have : 0 < a * b := Int.mul_pos_of_neg_of_neg ha hb
    simp [ha, hb]; omega
  · have : a * b ≤ 0 := Int.mul_nonpos_of_nonpos_of_nonneg (by omega) hb
    have hb' : ¬ b < 0 := by omega
    simp [ha, hb']; omega
  · have : a * b ≤ 0 := Int.mul_nonpos_of_nonneg_of_nonpos ha (by omega)
    have ha' : ¬ a < 0 := by omega
    simp [ha', hb]; omega
  · have : 0 ≤ a * b := Int.mul_nonneg ha hb
    have ha' : ¬ a < 0 := by omega
    have hb' : ¬ b < 0 := by omega
    simp [ha', hb']; omega
end Go.Proofs.YtobnpabndpmabaaGreat
namespace Go.Proofs.YtobnpabndpmabaaGreat
open Go.RowKit
abbrev bxZ (neg : Bool) (A : List Nat) : List OObj := [⟨79, 2, [[.p (.raw (.bool neg)), .p (.sl (ls fU A))]]⟩]
abbrev bx0 : List OObj := [⟨79, 2, [[.raw (.bool false), .raw (.slice none 0 0)]]⟩]
set_option maxRecDepth 100000 in
set_option maxHeartbeats 4000000 in
theorem Mul_C (a b : Int) (ha : Bh a) (hb : Bh b) : CallC Tryz.prog 140 [tZ a, tZ b] ⟨[], tZ (a * b)⟩ := by
  have la := ha.len
  have lb := hb.len
  have hlA := lmb_limbs a.natAbs
  have hlB := lmb_limbs b.natAbs
  have vA := natV_limbs a.natAbs
  have vB := natV_limbs b.natAbs
  refine callC_of Tryz.func140 rfl (by kernel_rfl) ?_; rw [Tryz.ntmps140]
  (refine WpA_sreg [] [] (by simp) fun K hK => ?_; simp (disch := omega) only [kc, prep1, Nat.reduceAdd, tZ, List.replicate, opS_box, newS, effA, cellsOf, isPure, ifT, updH, Nat.reduceEqDiff, opS_alloc, ty_zero79, Value.oneCell', ifF]; (with_reducible refine hK _ ?_))
  generalize limbs a.natAbs = A at *
  generalize limbs b.natAbs = B at *
  have e0 : ((A.length : Int) + (B.length : Int)).toNat = A.length + B.length := by omega
  (refine WpA_sreg [] [] (by simp) fun K hK => ?_; simp (disch := omega) only [kc, prep1, Nat.reduceAdd, opS_fieldAddr, effR, ty_fld79_1, ty_sz77, updH, Nat.reduceEqDiff, ifF, packT, ty_agg77, opS_len, ty_slice77, ls_len, effM, evBin, wrapI, opS_makeSlice, newS, effA, ty_zero154, ty_sz154, ty_by154, Value.oneCell', and_true, e0, lcU_rep, ifT]; (with_reducible refine hK _ ?_))
  (refine WpA_seq (WpA_sreg [] [] (by simp) fun K hK => ?_); simp (disch := omega) only [kc, prep1, Nat.reduceAdd, opS_fieldAddr, effR, ty_fld79_1, ty_sz77, updH, Nat.reduceEqDiff, ifF, packT, ty_agg77, opS_len, ty_slice77, ls_len, ofConst, Value.oneCell']; (with_reducible refine hK _ ?_))
  refine WpA_forb (G := MulO A B) (fun g => ⟨[jk, jk, .one (.ptr 2 0 0 0), .one (.ptr 3 0 0 0), .one (.ptr 4 0 0 0), .one (.sl 18 0 0 (A.length + B.length)), jk, jk, jk, jk, jk, jk, jk, jk, jk, jk, jk, jk, jk, jk, slU A, .raw (.int .i64 (A.length : Int)), .raw (.int .i64 (g.i : Int)), jk, jk, jk, jk, jk, jk, jk, jk, jk, jk, jk, jk, jk, jk, jk, jk, jk, jk, jk, jk, jk, jk, jk, jk, jk, jk, jk, jk, jk, jk, jk, jk, jk, jk, jk, jk, jk, jk, jk, jk, jk, jk, jk, jk, jk, jk, jk, jk, jk, jk, jk, jk, jk, jk], Hm [(2, bxZ (decide (a < 0)) A), (3, bxZ (decide (b < 0)) B), (4, bx0), (18, [⟨154, 1, lc fU g.O⟩])]⟩) (fun g => A.length - g.i) ⟨0, List.replicate (A.length + B.length) 0, by omega, by simp, fun x hx => by simp at hx; omega, by simp [natV_rep, natV], fun k h1 h2 => by rw [List.getElem?_replicate, if_pos h2]⟩ ?_ ?_
  · refine Weak_sub ⟨rfl, rfl, rfl, rfl, trivial⟩ ?_
    simp [wkL, okTV, okAV]
  · rintro ⟨i, O, hi, len, lmb, val, zero⟩
    simp only
    by_cases hm : i < A.length
    · obtain ⟨x, hx⟩ := getElem?_of_lt hm
      have hx' := lmb_at hlA hx
      (refine WpA_sreg [] [] (by simp) fun K hK => ?_; simp (disch := omega) only [kc, prep1, slU, Hm, effM, evBin, decT]; (with_reducible refine hK _ ?_))
      refine WpA_seq (WpA_cond rfl (fun _ => WpA_skip ?_) (fun h => by simp at h <;> omega))
      refine WpA_seq (WpA_block ?_)
      (refine WpA_sreg [] [] (by simp) fun K hK => ?_; simp (disch := omega) only [kc, prep1, Nat.reduceAdd, opS_indexAddr, effR, natOf_pos, ty_slice77, ls_get, hx, fU, ty_sz154, packT, ty_agg154]; (with_reducible refine hK _ ?_))
      (refine WpA_sreg [] [] (by simp) fun K hK => ?_; simp (disch := omega) only [kc, prep1, ofConst, Value.oneCell']; (with_reducible refine hK _ ?_))
      (refine WpA_seq (WpA_sreg [] [] (by simp) fun K hK => ?_); simp (disch := omega) only [kc, prep1, Nat.reduceAdd, opS_fieldAddr, effR, ty_fld79_1, ty_sz77, Nat.reduceEqDiff, ifF, packT, ty_agg77, opS_len, ty_slice77, ls_len, ofConst, Value.oneCell']; (with_reducible refine hK _ ?_))
      refine WpA_forb (G := MulI A B i x) (fun g => ⟨[jk, jk, .one (.ptr 2 0 0 0), .one (.ptr 3 0 0 0), .one (.ptr 4 0 0 0), .one (.sl 18 0 0 (A.length + B.length)), .raw (.int .i64 (i : Int)), .raw (.int .u32 (x : Int)), .raw (.int .u64 (g.c : Int)), jk, jk, jk, jk, jk, jk, jk, jk, jk, jk, jk, slU A, .raw (.int .i64 (A.length : Int)), .raw (.int .i64 (i : Int)), jk, jk, jk, jk, jk, slU B, .raw (.int .i64 (B.length : Int)), .raw (.int .i64 (g.j : Int)), jk, jk, jk, jk, jk, jk, jk, jk, jk, jk, jk, jk, jk, jk, jk, jk, jk, jk, jk, jk, jk, jk, jk, jk, jk, jk, jk, jk, jk, jk, jk, jk, jk, jk, jk, jk, jk, jk, jk, jk, jk, jk, jk, jk, jk, jk], Hm [(2, bxZ (decide (a < 0)) A), (3, bxZ (decide (b < 0)) B), (4, bx0), (18, [⟨154, 1, lc fU g.O⟩])]⟩) (fun g => B.length - g.j) ⟨0, O, 0, by omega, len, lmb, by omega, by simpa [natV] using val, zero⟩ ?_ ?_
      · refine Weak_sub ⟨rfl, rfl, rfl, rfl, trivial⟩ ?_
        simp [wkL, okTV, okAV]
      · intro g
        by_cases hn : g.j < B.length
        · obtain ⟨y, hy⟩ := getElem?_of_lt hn
          have hy' := lmb_at hlB hy
          have hlen := g.len
          obtain ⟨o, ho⟩ := getElem?_of_lt (show i + g.j < g.O.length by omega)
          have ho' := lmb_at g.lmb ho
          have hb := mul_bound hx' hy'
          have hgc := g.hc
          obtain ⟨g', q1, q2, q3⟩ := mulI_step g hy ho hm hx' hy'
          have e1 : ((i : Int) + (g.j : Int)).toNat = i + g.j := by omega
          have e2 : (x : Int) * (y : Int) = ((x * y : Nat) : Int) := by simp
          generalize hp : x * y = p at *
          have e3 : IntKind.u32.wrap ((g.c : Int) + ((p : Int) + (o : Int))) = (((g.c + (p + o)) % 4294967296 : Nat) : Int) := by rw [← w32]; congr 1 <;> omega
          have e4 : Int.fdiv ((g.c : Int) + ((p : Int) + (o : Int))) (2 ^ (min 32 IntKind.u64.bits)) = (((g.c + (p + o)) / 4294967296 : Nat) : Int) := by rw [← s32]; congr 1 <;> omega
          (refine WpA_sreg [] [] (by simp) fun K hK => ?_; simp (disch := omega) only [kc, prep1, slU, Hm, effM, evBin, decT]; (with_reducible refine hK _ ?_))
          refine WpA_seq (WpA_cond rfl (fun _ => WpA_skip ?_) (fun h => by simp at h <;> omega))
          refine WpA_seq (WpA_block ?_)
          (refine WpA_sreg [] [] (by simp) fun K hK => ?_; simp (disch := omega) only [kc, prep1, Nat.reduceAdd, opS_indexAddr, effR, natOf_pos, ty_slice77, ls_get, hy, fU, ty_sz154, packT, ty_agg154]; (with_reducible refine hK _ ?_))
          (refine WpA_sreg [] [] (by simp) fun K hK => ?_; simp (disch := omega) only [kc, prep1, Nat.reduceAdd, opS_conv, effM, Tryz.underlying154, ty_int35, wrapU, evBin, e2, wrapI, opS_indexAddr, effR, natOf_pos, e1, ty_slice77, Nat.reduceEqDiff, ifF, ty_sz154, ifT, lc_get, fU, ho, packT, ty_agg154]; (with_reducible refine hK _ ?_))
          (refine WpA_sreg [] [] (by simp) fun K hK => ?_; simp (disch := omega) only [kc, prep1, Nat.reduceAdd, effM, evBin, wrapI, opS_conv, Tryz.underlying35, ty_int154, e3, opS_indexAddr, effR, natOf_pos, e1, ty_slice77, Nat.reduceEqDiff, ifF, ty_sz154, ifT, opS_store, wrS, effD, lc_get, fU, ho, cellsOf, Nat.le_refl, isPure, putCells, lcU_set, killTV, killAV]; (with_reducible refine hK _ ?_))
          ((refine WpA_lreg [] [] (by simp) fun K hK => ?_); simp (disch := omega) only [kc, prep1, Nat.reduceAdd, effM, ofConst, Value.oneCell', evBin, Int.reduceLE, Int.reduceToNat, e4]; (with_reducible refine hK _ ?_))
          show WpA _ _ _ _
          ((refine WpA_lreg [] [] (by simp) fun K hK => ?_); simp (disch := omega) only [kc, prep1, effM, ofConst, Value.oneCell', evBin, wrapI]; (with_reducible refine hK _ ?_))
          refine ⟨g', by omega, Weak_sub ⟨rfl, rfl, rfl, by rw [q2]; rfl, trivial⟩ ?_⟩
          simp [wkL, okTV, okAV, q1, q3]
        · have hgj := g.hj
          have hgc := g.hc
          have hgl := g.len
          obtain ⟨g', q1, q2⟩ := mulI_done hx g hn
          have e1 : ((i : Int) + (B.length : Int)).toNat = i + B.length := by omega
          have e3 : IntKind.u32.wrap (g.c : Int) = (g.c : Int) := by rw [w32]; omega
          (refine WpA_sreg [] [] (by simp) fun K hK => ?_; simp (disch := omega) only [kc, prep1, slU, Hm, effM, evBin, decF]; (with_reducible refine hK _ ?_))
          refine WpA_seq (WpA_cond rfl (fun h => by simp at h <;> omega) (fun _ => WpA_exit ?_))
          show WpA _ _ _ _
          have hz := g.zero (i + B.length) (Nat.le_refl _) (by omega)
          ((refine WpA_lreg [] [] (by simp) fun K hK => ?_); simp (disch := omega) only [kc, prep1, Nat.reduceAdd, opS_fieldAddr, effR, ty_fld79_1, ty_sz77, Nat.reduceEqDiff, ifF, packT, ty_agg77, opS_len, ty_slice77, ls_len, effM, evBin, wrapI, opS_conv, Tryz.underlying35, ty_int154, e3, opS_indexAddr, natOf_pos, e1, ty_sz154, ifT, opS_store, wrS, effD, lc_get, fU, hz, cellsOf, Nat.le_refl, isPure, putCells, lcU_set, killTV, killAV]; (with_reducible refine hK _ ?_))
          show WpA _ _ _ _
          ((refine WpA_lreg [] [] (by simp) fun K hK => ?_); simp (disch := omega) only [kc, prep1, effM, ofConst, Value.oneCell', evBin, wrapI]; (with_reducible refine hK _ ?_))
          refine ⟨g', by omega, Weak_sub ⟨rfl, rfl, rfl, by rw [q2]; rfl, trivial⟩ ?_⟩
          simp [wkL, okTV, okAV, q1]
    · have hfin : natV O = a.natAbs * b.natAbs := by
        have : i = A.length := by omega
        rw [val, this, List.take_length, vA, vB]
      have h4 := make_C (!(decide (a < 0) == decide (b < 0))) O lmb (by omega)
      rw [hfin, mul_sgn] at h4
      (refine WpA_sreg [] [] (by simp) fun K hK => ?_; simp (disch := omega) only [kc, prep1, slU, Hm, effM, evBin, decF]; (with_reducible refine hK _ ?_))
      refine WpA_seq (WpA_cond rfl (fun h => by simp at h <;> omega) (fun _ => WpA_exit ?_))
      show WpA _ _ _ _
      refine WpA.weak (Weak_fz 18 (fzOk_one rfl)) ?_
      have eT : List.take (A.length + B.length) O = O := List.take_of_length_le (by omega)
      simp (disch := omega) only [kc, tZ, fzTV, fzAV, Nat.reduceEqDiff, ifT, ifF, lc_take, eT, lc_cellF]
      (refine WpA_sreg [⟨6, _, _, _, h4⟩] [] (by simp) fun K hK => ?_; simp (disch := omega) only [kc, slU, tZ, CItem.a, prep1, Nat.reduceAdd, opS_fieldAddr, effR, ty_fld79_0, ty_sz4, Nat.add_zero, updH, Nat.reduceEqDiff, ifF, packT, ty_agg4, effM, evBin, ty_bool4, opS_call, newS, effA, List.find?_cons, evAll, norm, CallRes.plain, rawTV, rawAV, normOk, noRefTV, noRefAV, renTV, renAV, opS_store, wrS, effD, ty_sz79, cellsOf, Nat.le_refl, isPure, ifT, putCells, killTV, killAV]; (with_reducible refine hK _ ?_))
      (refine WpA_ret ⟨.inr rfl, ret_now rfl ?_ rfl⟩; simp (disch := omega) only [kc, resA, Tryz.results140, resOne, updH, Nat.reduceEqDiff, ifF, packT, ty_sz79, ty_agg79, Nat.reduceAdd, Nat.le_refl])
end Go.Proofs.YtobnpabndpmabaaGreat
